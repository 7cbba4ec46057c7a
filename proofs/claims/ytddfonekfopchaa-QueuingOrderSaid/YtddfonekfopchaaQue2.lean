/-
  The walks of package queuing: changed (its two instances), line.
-/
import Derived.Test.YtddfonekfopchaaQue
namespace Go.Proofs.Ytddfonekfopchaa
open Go.RowKit
set_option linter.unusedVariables false
set_option linter.unusedSimpArgs false

def QueP.RowP (e : TypeId) (n : Nat) (xs : List Value) (w0 : World) (H : List Hp.Blk) (D : World → Prop) (en : Ending) (w' : World) : Prop :=
  ∃ v' R', en = .returned v' ∧ Hp.Sh w0 w' (R' ++ H) D ∧ Hp.RowIs e 1 v' n xs R'

set_option maxHeartbeats 1000000 in
set_option maxRecDepth 100000 in
theorem qchW_any (s : Option Addr) (vs : List Value) (n cap d : Nat) (m : Option Addr) (ms : List Value) (mn mcap : Nat) (w0 w : World) (H : List Hp.Blk) (D : World → Prop) (sh : Hp.Sh w0 w H D) (hn : n = vs.length) (hm : mn = ms.length) (hd : d ≤ n) (hn2 : n ≤ 1073741824) (hm2 : mn ≤ 1073741824)
    (hcap : n ≤ cap) (hcm : cap ≤ maxLen) (hs0 : s = none → n = 0 ∧ cap = 0) (hm0 : m = none → mn = 0 ∧ mcap = 0) (hv : ∀ W, D W → Hp.RdV W s vs) (hw : ∀ W, D W → Hp.RdV W m ms) (h1 : ∀ v ∈ vs, v.oneCell' = true) (h2 : ∀ v ∈ ms, v.oneCell' = true) :
    Calls Try.prog 16 #[.slice s n cap, .int .i64 d, .slice m mn mcap] w
      (QueP.RowP 48 (n - d + mn) (vs.drop d ++ ms) w0 H D) := by
  have HV := Lib.hid hv
  have HW := Lib.hid hw
  have HN := Lib.hid hn
  have HM := Lib.hid hm
  have HM0 := Lib.hid hm0
  have HS0 := Lib.hid hs0
  have H1 := Lib.hid h1
  have H2 := Lib.hid h2
  unfold maxLen at hcm
  clear hv hw hn hm hm0 hs0 h1 h2
  go_enter Try.func16, Try.ntmps16
  go_wp2_with (first
      | (((with_reducible refine Hp.atl_make ?_ ?_); exact rfl; go_loud (refine Hp.wp_make (m := 0) (kl := .i64) (kc := .i64) (n - d + mn) Try.i_u32 Try.underlying28 (by decide) sh ?_ ?_ ?_ ?_ ?_); rfl; (show Value.int _ _ = Value.int _ _; congr 1; omega); omega; omega; clear sh; intro b w1 sh; have HR := Lib.hid (Hp.row_made (e := 48) (size := 1) (g := b) (cap := n - d + mn) (cur := madeCells (Value.cells (.int .u32 0)) ((n - d + mn) * 1)) (by unfold maxLen; omega) (size_madeCells _ _)); go_simp))
      | (((with_reducible refine Hp.wpl_cut_l Try.underlying28 Try.s_u32 d ?_ rfl rfl hd ?_); exact rfl; go_simp))
      | (((with_reducible refine Hp.atl_append 16 ?_ ?_); exact rfl; go_loud (refine Hp.wp_append (R := [(b, _, _)]) (H := H) (D := D) (news := vs.drop d) Try.i_u32 Try.underlying28 (by decide) rfl (by decide) sh HR.out rfl rfl ?_ ?_ ?_ ?_ ?_ ?_); (rw [List.length_drop, ← HN.out, Nat.mul_one]); (have h0 := (HV.out _ sh.data).cut (l := d) (m := cap) (size := 1) (by rw [← HN.out]; omega); rw [Nat.mul_one] at h0; exact h0); (intro h0; have := HS0.out (Hp.cut_none h0); omega); (exact fun v hv => H1.out v (List.mem_of_mem_drop hv)); omega; clear sh HR; intro v1 R1 w1 sh hr1; have HR1 := Lib.hid hr1; clear hr1; go_simp))
      | (((with_reducible refine Hp.atl_append 21 ?_ ?_); exact rfl; go_loud (refine Hp.wp_append (R := R1) (H := H) (D := D) (news := ms) Try.i_u32 Try.underlying28 (by decide) rfl (by decide) sh HR1.out rfl rfl ?_ (HW.out _ sh.data) HM0.out H2.out ?_ ?_); (rw [← HM.out, Nat.mul_one]); omega; clear sh; intro v2 R2 w1 sh hr2; have HR2 := Lib.hid hr2; clear hr2; go_simp))
      | ((with_reducible refine Hp.wpl_box sh ?_ ?_); exact rfl; clear sh; (try clear F); go_simp; intro b w1 sh; have F := sh.facts; (try simp only [Hp.Facts, Hp.CellsAt, Nat.reduceAdd, List.cons_append, List.nil_append] at F))
      | ((with_reducible refine Hp.wpl_alloc Try.z_line sh ?_ ?_); exact rfl; clear sh; (try clear F); go_simp; intro b w1 sh; have F := sh.facts; (try simp only [Hp.Facts, Hp.CellsAt, Nat.reduceAdd, List.cons_append, List.nil_append] at F))
      | ((with_reducible refine Hp.atl_store ?_ ?_); exact rfl; (first | refine Hp.wp_store 0 sh rfl rfl rfl rfl (by kernel_rfl) (Nat.le_of_ble_eq_true rfl) rfl ?_ | refine Hp.wp_store 1 sh rfl rfl rfl rfl (by kernel_rfl) (Nat.le_of_ble_eq_true rfl) rfl ?_ | refine Hp.wp_store 2 sh rfl rfl rfl rfl (by kernel_rfl) (Nat.le_of_ble_eq_true rfl) rfl ?_ | refine Hp.wp_store 3 sh rfl rfl rfl rfl (by kernel_rfl) (Nat.le_of_ble_eq_true rfl) rfl ?_ | refine Hp.wp_store 4 sh rfl rfl rfl rfl (by kernel_rfl) (Nat.le_of_ble_eq_true rfl) rfl ?_ | refine Hp.wp_store 5 sh rfl rfl rfl rfl (by kernel_rfl) (Nat.le_of_ble_eq_true rfl) rfl ?_ | refine Hp.wp_store 6 sh rfl rfl rfl rfl (by kernel_rfl) (Nat.le_of_ble_eq_true rfl) rfl ?_); clear sh; (try clear F); go_simp; intro w1 sh; have F := sh.facts; (try simp only [Hp.Facts, Hp.CellsAt, Nat.reduceAdd, List.cons_append, List.nil_append] at F))
      | fail)
  go_ret
  exact ⟨v2, R2, rfl, sh, by simpa using HR2.out⟩

set_option maxHeartbeats 1000000 in
set_option maxRecDepth 100000 in
theorem qchR_any (s : Option Addr) (vs : List Value) (n cap d : Nat) (m : Option Addr) (ms : List Value) (mn mcap : Nat) (w0 w : World) (H : List Hp.Blk) (D : World → Prop) (sh : Hp.Sh w0 w H D) (hn : n = vs.length) (hm : mn = ms.length) (hd : d ≤ n) (hn2 : n ≤ 1073741824) (hm2 : mn ≤ 1073741824)
    (hcap : n ≤ cap) (hcm : cap ≤ maxLen) (hs0 : s = none → n = 0 ∧ cap = 0) (hm0 : m = none → mn = 0 ∧ mcap = 0) (hv : ∀ W, D W → Hp.RdV W s vs) (hw : ∀ W, D W → Hp.RdV W m ms) (h1 : ∀ v ∈ vs, v.oneCell' = true) (h2 : ∀ v ∈ ms, v.oneCell' = true) :
    Calls Try.prog 15 #[.slice s n cap, .int .i64 d, .slice m mn mcap] w
      (QueP.RowP 28 (n - d + mn) (vs.drop d ++ ms) w0 H D) := by
  have HV := Lib.hid hv
  have HW := Lib.hid hw
  have HN := Lib.hid hn
  have HM := Lib.hid hm
  have HM0 := Lib.hid hm0
  have HS0 := Lib.hid hs0
  have H1 := Lib.hid h1
  have H2 := Lib.hid h2
  unfold maxLen at hcm
  clear hv hw hn hm hm0 hs0 h1 h2
  go_enter Try.func15, Try.ntmps15
  go_wp2_with (first
      | (((with_reducible refine Hp.atl_make ?_ ?_); exact rfl; go_loud (refine Hp.wp_make (m := 0) (kl := .i64) (kc := .i64) (n - d + mn) Try.i_row Try.underlying25 (by decide) sh ?_ ?_ ?_ ?_ ?_); rfl; (show Value.int _ _ = Value.int _ _; congr 1; omega); omega; omega; clear sh; intro b w1 sh; have HR := Lib.hid (Hp.row_made (e := 28) (size := 1) (g := b) (cap := n - d + mn) (cur := madeCells (Value.cells (.slice none 0 0)) ((n - d + mn) * 1)) (by unfold maxLen; omega) (size_madeCells _ _)); go_simp))
      | (((with_reducible refine Hp.wpl_cut_l Try.underlying25 Try.s_row d ?_ rfl rfl hd ?_); exact rfl; go_simp))
      | (((with_reducible refine Hp.atl_append 16 ?_ ?_); exact rfl; go_loud (refine Hp.wp_append (R := [(b, _, _)]) (H := H) (D := D) (news := vs.drop d) Try.i_row Try.underlying25 (by decide) rfl (by decide) sh HR.out rfl rfl ?_ ?_ ?_ ?_ ?_ ?_); (rw [List.length_drop, ← HN.out, Nat.mul_one]); (have h0 := (HV.out _ sh.data).cut (l := d) (m := cap) (size := 1) (by rw [← HN.out]; omega); rw [Nat.mul_one] at h0; exact h0); (intro h0; have := HS0.out (Hp.cut_none h0); omega); (exact fun v hv => H1.out v (List.mem_of_mem_drop hv)); omega; clear sh HR; intro v1 R1 w1 sh hr1; have HR1 := Lib.hid hr1; clear hr1; go_simp))
      | (((with_reducible refine Hp.atl_append 21 ?_ ?_); exact rfl; go_loud (refine Hp.wp_append (R := R1) (H := H) (D := D) (news := ms) Try.i_row Try.underlying25 (by decide) rfl (by decide) sh HR1.out rfl rfl ?_ (HW.out _ sh.data) HM0.out H2.out ?_ ?_); (rw [← HM.out, Nat.mul_one]); omega; clear sh; intro v2 R2 w1 sh hr2; have HR2 := Lib.hid hr2; clear hr2; go_simp))
      | ((with_reducible refine Hp.wpl_box sh ?_ ?_); exact rfl; clear sh; (try clear F); go_simp; intro b w1 sh; have F := sh.facts; (try simp only [Hp.Facts, Hp.CellsAt, Nat.reduceAdd, List.cons_append, List.nil_append] at F))
      | ((with_reducible refine Hp.wpl_alloc Try.z_line sh ?_ ?_); exact rfl; clear sh; (try clear F); go_simp; intro b w1 sh; have F := sh.facts; (try simp only [Hp.Facts, Hp.CellsAt, Nat.reduceAdd, List.cons_append, List.nil_append] at F))
      | ((with_reducible refine Hp.atl_store ?_ ?_); exact rfl; (first | refine Hp.wp_store 0 sh rfl rfl rfl rfl (by kernel_rfl) (Nat.le_of_ble_eq_true rfl) rfl ?_ | refine Hp.wp_store 1 sh rfl rfl rfl rfl (by kernel_rfl) (Nat.le_of_ble_eq_true rfl) rfl ?_ | refine Hp.wp_store 2 sh rfl rfl rfl rfl (by kernel_rfl) (Nat.le_of_ble_eq_true rfl) rfl ?_ | refine Hp.wp_store 3 sh rfl rfl rfl rfl (by kernel_rfl) (Nat.le_of_ble_eq_true rfl) rfl ?_ | refine Hp.wp_store 4 sh rfl rfl rfl rfl (by kernel_rfl) (Nat.le_of_ble_eq_true rfl) rfl ?_ | refine Hp.wp_store 5 sh rfl rfl rfl rfl (by kernel_rfl) (Nat.le_of_ble_eq_true rfl) rfl ?_ | refine Hp.wp_store 6 sh rfl rfl rfl rfl (by kernel_rfl) (Nat.le_of_ble_eq_true rfl) rfl ?_); clear sh; (try clear F); go_simp; intro w1 sh; have F := sh.facts; (try simp only [Hp.Facts, Hp.CellsAt, Nat.reduceAdd, List.cons_append, List.nil_append] at F))
      | fail)
  go_ret
  exact ⟨v2, R2, rfl, sh, by simpa using HR2.out⟩

def QueP.LineP (hs : List QueP.Hd) (s : Option Addr) (cap n : Nat) (w0 : World) (H : List Hp.Blk) (D : World → Prop) (e : Ending) (w' : World) : Prop :=
  ∃ hs' R', e = .returned (.agg #[.slice s n cap]) ∧ hs'.map (·.2.1) = hs.map (·.2.1) ∧ (∀ h ∈ hs', QueP.Shape h) ∧ Hp.Sh w0 w' (R' ++ H) (fun W => QueP.Ok W hs' ∧ D W) ∧ Hp.RowIs 28 1 (.slice s n cap) n (hs'.map QueP.hdr) R'

theorem set_take (c : Array Value) (n k : Nat) (v : Value) (vs : List Value) (h : c.toList.take n = vs) : (c.setIfInBounds k v).toList.take n = vs.set k v := by
  rw [Array.toList_setIfInBounds, List.take_set, h]

set_option maxHeartbeats 1000000 in
set_option maxRecDepth 100000 in
theorem qline (hs : List QueP.Hd) (s : Option Addr) (cap n : Nat) (R : List Hp.Blk) (w0 w : World) (H : List Hp.Blk) (D : World → Prop) (sh : Hp.Sh w0 w (R ++ H) D) (hr : Hp.RowIs 28 1 (.slice s n cap) n (hs.map QueP.hdr) R)
    (hok : ∀ W, D W → QueP.Ok W hs) (hsh : ∀ h ∈ hs, QueP.Shape h) (hsm : ∀ h ∈ hs, h.2.1.length ≤ 1073741824) (hn : n ≤ 1073741824) :
    Calls Try.prog 14 #[.slice s n cap] w (QueP.LineP hs s cap n w0 H D) := by
  rcases hr.2 with ⟨hv, hn0, rfl⟩ | ⟨g, cap', cur, hv, rfl, hnc, hcm, hcs, htake⟩
  · simp only [Value.slice.injEq] at hv
    obtain ⟨rfl, rfl, rfl⟩ := hv
    obtain rfl : hs = [] := by
      have := hr.1
      simpa using this
    have HR := Lib.hid hr
    clear hr hn0 hok hsh hn hsm
    go_enter Try.func14, Try.ntmps14
    have tok_bl : True := trivial
    go_wp2_with (first
        | ((have tok := tok_bl); clear tok tok_bl; (first | (with_reducible refine Hp.wpl_box sh ?_ ?_) | (with_reducible refine Hp.wpl_alloc Try.z_line sh ?_ ?_)); exact rfl; clear sh; (try clear F); go_simp; intro bl w1 sh; have F := sh.facts; (try simp only [Hp.Facts, Hp.CellsAt, Nat.reduceAdd, List.cons_append, List.nil_append] at F))
        | ((with_reducible refine Hp.wpl_box sh ?_ ?_); exact rfl; clear sh; (try clear F); go_simp; intro b w1 sh; have F := sh.facts; (try simp only [Hp.Facts, Hp.CellsAt, Nat.reduceAdd, List.cons_append, List.nil_append] at F))
        | ((with_reducible refine Hp.wpl_alloc Try.z_line sh ?_ ?_); exact rfl; clear sh; (try clear F); go_simp; intro b w1 sh; have F := sh.facts; (try simp only [Hp.Facts, Hp.CellsAt, Nat.reduceAdd, List.cons_append, List.nil_append] at F))
        | ((with_reducible refine Hp.atl_store ?_ ?_); exact rfl; (first | refine Hp.wp_store 0 sh rfl rfl rfl rfl (by kernel_rfl) (Nat.le_of_ble_eq_true rfl) rfl ?_ | refine Hp.wp_store 1 sh rfl rfl rfl rfl (by kernel_rfl) (Nat.le_of_ble_eq_true rfl) rfl ?_ | refine Hp.wp_store 2 sh rfl rfl rfl rfl (by kernel_rfl) (Nat.le_of_ble_eq_true rfl) rfl ?_ | refine Hp.wp_store 3 sh rfl rfl rfl rfl (by kernel_rfl) (Nat.le_of_ble_eq_true rfl) rfl ?_ | refine Hp.wp_store 4 sh rfl rfl rfl rfl (by kernel_rfl) (Nat.le_of_ble_eq_true rfl) rfl ?_ | refine Hp.wp_store 5 sh rfl rfl rfl rfl (by kernel_rfl) (Nat.le_of_ble_eq_true rfl) rfl ?_ | refine Hp.wp_store 6 sh rfl rfl rfl rfl (by kernel_rfl) (Nat.le_of_ble_eq_true rfl) rfl ?_); clear sh; (try clear F); go_simp; intro w1 sh; have F := sh.facts; (try simp only [Hp.Facts, Hp.CellsAt, Nat.reduceAdd, List.cons_append, List.nil_append] at F))
        | fail)
    go_loopw [7] (fun i wr => i = .int .i64 0 ∧ Hp.Sh w0 wr ((bl, #[.slice none 0 0], 27) :: ([] ++ H)) D) (fun _ _ => 0)
    case atStart => exact ⟨rfl, sh⟩
    case round =>
      clear sh F
      obtain ⟨rfl, sh⟩ := hrel
      have F := sh.facts; (try simp only [Hp.Facts, Hp.CellsAt, Nat.reduceAdd, List.cons_append, List.nil_append] at F)
      go_wp2_with (first
          | ((with_reducible refine Hp.wpl_box sh ?_ ?_); exact rfl; clear sh; (try clear F); go_simp; intro b w1 sh; have F := sh.facts; (try simp only [Hp.Facts, Hp.CellsAt, Nat.reduceAdd, List.cons_append, List.nil_append] at F))
          | ((with_reducible refine Hp.wpl_alloc Try.z_line sh ?_ ?_); exact rfl; clear sh; (try clear F); go_simp; intro b w1 sh; have F := sh.facts; (try simp only [Hp.Facts, Hp.CellsAt, Nat.reduceAdd, List.cons_append, List.nil_append] at F))
          | ((with_reducible refine Hp.atl_store ?_ ?_); exact rfl; (first | refine Hp.wp_store 0 sh rfl rfl rfl rfl (by kernel_rfl) (Nat.le_of_ble_eq_true rfl) rfl ?_ | refine Hp.wp_store 1 sh rfl rfl rfl rfl (by kernel_rfl) (Nat.le_of_ble_eq_true rfl) rfl ?_ | refine Hp.wp_store 2 sh rfl rfl rfl rfl (by kernel_rfl) (Nat.le_of_ble_eq_true rfl) rfl ?_ | refine Hp.wp_store 3 sh rfl rfl rfl rfl (by kernel_rfl) (Nat.le_of_ble_eq_true rfl) rfl ?_ | refine Hp.wp_store 4 sh rfl rfl rfl rfl (by kernel_rfl) (Nat.le_of_ble_eq_true rfl) rfl ?_ | refine Hp.wp_store 5 sh rfl rfl rfl rfl (by kernel_rfl) (Nat.le_of_ble_eq_true rfl) rfl ?_ | refine Hp.wp_store 6 sh rfl rfl rfl rfl (by kernel_rfl) (Nat.le_of_ble_eq_true rfl) rfl ?_); clear sh; (try clear F); go_simp; intro w1 sh; have F := sh.facts; (try simp only [Hp.Facts, Hp.CellsAt, Nat.reduceAdd, List.cons_append, List.nil_append] at F))
          | fail)
      refine bodyPost_ret (Hp.res_c rfl rfl (sh.load 0 rfl (by kernel_rfl) (by kernel_rfl))) rfl ⟨[], [], rfl, rfl, by simp, (sh.drop1.imp fun W h => ⟨fun h hh => by simp at hh, h⟩), HR.out⟩
  · simp only [Value.slice.injEq] at hv
    obtain ⟨rfl, _, rfl⟩ := hv
    have hsl : hs.length = n := by have := hr.1; simpa using this
    have HOK := Lib.hid hok
    have HSH := Lib.hid hsh
    have HSM := Lib.hid hsm
    have HCS := Lib.hid hcs
    have HTK := Lib.hid htake
    have HL := Lib.hid hsl
    unfold maxLen at hcm
    clear hr hok hsh hcs htake hsl hsm
    go_enter Try.func14, Try.ntmps14
    have tok_bl : True := trivial
    go_wp2_with (first
        | ((have tok := tok_bl); clear tok tok_bl; (first | (with_reducible refine Hp.wpl_box sh ?_ ?_) | (with_reducible refine Hp.wpl_alloc Try.z_line sh ?_ ?_)); exact rfl; clear sh; (try clear F); go_simp; intro bl w1 sh; have F := sh.facts; (try simp only [Hp.Facts, Hp.CellsAt, Nat.reduceAdd, List.cons_append, List.nil_append] at F))
        | ((with_reducible refine Hp.wpl_box sh ?_ ?_); exact rfl; clear sh; (try clear F); go_simp; intro b w1 sh; have F := sh.facts; (try simp only [Hp.Facts, Hp.CellsAt, Nat.reduceAdd, List.cons_append, List.nil_append] at F))
        | ((with_reducible refine Hp.wpl_alloc Try.z_line sh ?_ ?_); exact rfl; clear sh; (try clear F); go_simp; intro b w1 sh; have F := sh.facts; (try simp only [Hp.Facts, Hp.CellsAt, Nat.reduceAdd, List.cons_append, List.nil_append] at F))
        | ((with_reducible refine Hp.atl_store ?_ ?_); exact rfl; (first | refine Hp.wp_store 0 sh rfl rfl rfl rfl (by kernel_rfl) (Nat.le_of_ble_eq_true rfl) rfl ?_ | refine Hp.wp_store 1 sh rfl rfl rfl rfl (by kernel_rfl) (Nat.le_of_ble_eq_true rfl) rfl ?_ | refine Hp.wp_store 2 sh rfl rfl rfl rfl (by kernel_rfl) (Nat.le_of_ble_eq_true rfl) rfl ?_ | refine Hp.wp_store 3 sh rfl rfl rfl rfl (by kernel_rfl) (Nat.le_of_ble_eq_true rfl) rfl ?_ | refine Hp.wp_store 4 sh rfl rfl rfl rfl (by kernel_rfl) (Nat.le_of_ble_eq_true rfl) rfl ?_ | refine Hp.wp_store 5 sh rfl rfl rfl rfl (by kernel_rfl) (Nat.le_of_ble_eq_true rfl) rfl ?_ | refine Hp.wp_store 6 sh rfl rfl rfl rfl (by kernel_rfl) (Nat.le_of_ble_eq_true rfl) rfl ?_); clear sh; (try clear F); go_simp; intro w1 sh; have F := sh.facts; (try simp only [Hp.Facts, Hp.CellsAt, Nat.reduceAdd, List.cons_append, List.nil_append] at F))
        | fail)
    go_loopw [7] (fun i wr => ∃ (k : Nat) (hk : List QueP.Hd) (cur : Array Value), i = .int .i64 k ∧ k ≤ n ∧ Hid (hk.length = n ∧ hk.map (·.2.1) = hs.map (·.2.1) ∧ (∀ h ∈ hk, QueP.Shape h ∧ h.2.1.length ≤ 1073741824) ∧ cur.size = cap * 1 ∧ cur.toList.take (n * 1) = hk.map QueP.hdr) ∧
      Hp.Sh w0 wr ((bl, #[.slice none 0 0], 27) :: (g, cur, 28) :: H) (fun W => QueP.Ok W hk ∧ D W)) (fun i _ => n - (intOf i).toNat)
    case atStart => exact ⟨0, hs, cur, rfl, by omega, ⟨HL.out, rfl, fun h hh => ⟨HSH.out h hh, HSM.out h hh⟩, HCS.out, HTK.out⟩, sh.imp fun W h => ⟨HOK.out W h, h⟩⟩
    case round =>
      clear sh F HL HSH HSM HCS HTK HOK
      obtain ⟨k, hk, cur, rfl, hkn, HF, sh⟩ := hrel
      have F := sh.facts; (try simp only [Hp.Facts, Hp.CellsAt, Nat.reduceAdd, List.cons_append, List.nil_append] at F)
      by_cases hlt : k < n
      · have g1 : k < hk.length := by rw [HF.out.1]; exact hlt
        have hmem : hk[k] ∈ hk := List.getElem_mem g1
        have hS := HF.out.2.2.1 _ hmem
        have HD := Lib.hid (fun W (h : QueP.Ok W hk ∧ D W) => h.1 _ hmem)
        have hcell := Hp.boxH (sh.own (g, cur, 28) (by simp)) k (v := QueP.hdr hk[k]) (by
          have h1 : (cur.toList.take (n * 1))[k]? = some (QueP.hdr hk[k]) := by rw [HF.out.2.2.2.2]; simp [g1]
          rw [List.getElem?_take] at h1
          split at h1
          · simpa using h1
          · cases h1)
        have HX := Lib.hid (fun (h' : QueP.Hd) (hz : h'.2.1 = hk[k].2.1) => (by rw [List.map_set, hz, ← List.map_set (f := fun h : QueP.Hd => h.2.1), List.set_getElem_self] : (hk.set k h').map (·.2.1) = hk.map (·.2.1)))
        generalize hk[k] = h at *
        obtain ⟨hp, hz, hc⟩ := h
        obtain ⟨⟨hs1, hs2, hs0, hs4⟩, hs3⟩ := hS
        clear hs0
        simp only [QueP.hdr] at hcell hs1 hs2 hs3 hs4 HD HX
        unfold maxLen at hs4
        generalize hln : hz.length = ln at *
        have HLN := Lib.hid hln
        have HS1 := Lib.hid hs1
        clear hs1 hln hmem
        have CH := Lib.hid (fun (w : World) (H : List Hp.Blk) (D : World → Prop) sh hv => qchW_any hp (ints hz) ln hc 0 none [] 0 0 w0 w H D sh (by rw [ints_length]; exact HLN.out.symm) rfl (by omega) hs3 (by omega) hs2 (by unfold maxLen; exact hs4) HS1.out (fun _ => ⟨rfl, rfl⟩) hv (fun _ _ => Hp.RdV.nil _ _) ints_one (fun v h => by cases h))
        simp only [Int.ofNat_zero, Int.natCast_zero, Nat.sub_zero, Nat.add_zero, List.drop_zero, List.append_nil, Int.cast_ofNat_Int] at CH
        go_wp2_with (first
            | ((with_reducible refine Hp.wpl_box sh ?_ ?_); exact rfl; clear sh; (try clear F); go_simp; intro b w1 sh; have F := sh.facts; (try simp only [Hp.Facts, Hp.CellsAt, Nat.reduceAdd, List.cons_append, List.nil_append] at F))
            | ((with_reducible refine Hp.wpl_alloc Try.z_line sh ?_ ?_); exact rfl; clear sh; (try clear F); go_simp; intro b w1 sh; have F := sh.facts; (try simp only [Hp.Facts, Hp.CellsAt, Nat.reduceAdd, List.cons_append, List.nil_append] at F))
            | ((with_reducible refine Hp.atl_store ?_ ?_); exact rfl; (first | refine Hp.wp_store 0 sh rfl rfl rfl rfl (by kernel_rfl) (Nat.le_of_ble_eq_true rfl) rfl ?_ | refine Hp.wp_store 1 sh rfl rfl rfl rfl (by kernel_rfl) (Nat.le_of_ble_eq_true rfl) rfl ?_ | refine Hp.wp_store 2 sh rfl rfl rfl rfl (by kernel_rfl) (Nat.le_of_ble_eq_true rfl) rfl ?_ | refine Hp.wp_store 3 sh rfl rfl rfl rfl (by kernel_rfl) (Nat.le_of_ble_eq_true rfl) rfl ?_ | refine Hp.wp_store 4 sh rfl rfl rfl rfl (by kernel_rfl) (Nat.le_of_ble_eq_true rfl) rfl ?_ | refine Hp.wp_store 5 sh rfl rfl rfl rfl (by kernel_rfl) (Nat.le_of_ble_eq_true rfl) rfl ?_ | refine Hp.wp_store 6 sh rfl rfl rfl rfl (by kernel_rfl) (Nat.le_of_ble_eq_true rfl) rfl ?_); clear sh; (try clear F); go_simp; intro w1 sh; have F := sh.facts; (try simp only [Hp.Facts, Hp.CellsAt, Nat.reduceAdd, List.cons_append, List.nil_append] at F))
            | fail)
        refine (CH.out _ _ _ sh (fun W h => HD.out W h)).mono ?_
        clear sh F
        rintro e w1 ⟨v', R', rfl, sh, hr'⟩
        obtain ⟨s', cap', rfl, hnone, hle, hmx⟩ := hr'.slice
        replace sh := sh.freeze hr'
        have HNEW := Lib.hid (And.intro hnone (And.intro hle hmx))
        clear hr' hnone hle hmx
        have F := sh.facts; (try simp only [Hp.Facts, Hp.CellsAt, Nat.reduceAdd, List.cons_append, List.nil_append] at F)
        go_wp2_with (first
            | (((with_reducible refine Hp.atl_store ?_ ?_); exact rfl; (refine Hp.wp_store 1 sh rfl rfl rfl rfl (by kernel_rfl) ?_ rfl ?_); (show k + 1 ≤ cur.size; rw [HF.out.2.2.2.1]; omega); clear sh F; go_simp; intro w1 sh))
            | ((with_reducible refine Hp.wpl_box sh ?_ ?_); exact rfl; clear sh; (try clear F); go_simp; intro b w1 sh; have F := sh.facts; (try simp only [Hp.Facts, Hp.CellsAt, Nat.reduceAdd, List.cons_append, List.nil_append] at F))
            | ((with_reducible refine Hp.wpl_alloc Try.z_line sh ?_ ?_); exact rfl; clear sh; (try clear F); go_simp; intro b w1 sh; have F := sh.facts; (try simp only [Hp.Facts, Hp.CellsAt, Nat.reduceAdd, List.cons_append, List.nil_append] at F))
            | ((with_reducible refine Hp.atl_store ?_ ?_); exact rfl; (first | refine Hp.wp_store 0 sh rfl rfl rfl rfl (by kernel_rfl) (Nat.le_of_ble_eq_true rfl) rfl ?_ | refine Hp.wp_store 1 sh rfl rfl rfl rfl (by kernel_rfl) (Nat.le_of_ble_eq_true rfl) rfl ?_ | refine Hp.wp_store 2 sh rfl rfl rfl rfl (by kernel_rfl) (Nat.le_of_ble_eq_true rfl) rfl ?_ | refine Hp.wp_store 3 sh rfl rfl rfl rfl (by kernel_rfl) (Nat.le_of_ble_eq_true rfl) rfl ?_ | refine Hp.wp_store 4 sh rfl rfl rfl rfl (by kernel_rfl) (Nat.le_of_ble_eq_true rfl) rfl ?_ | refine Hp.wp_store 5 sh rfl rfl rfl rfl (by kernel_rfl) (Nat.le_of_ble_eq_true rfl) rfl ?_ | refine Hp.wp_store 6 sh rfl rfl rfl rfl (by kernel_rfl) (Nat.le_of_ble_eq_true rfl) rfl ?_); clear sh; (try clear F); go_simp; intro w1 sh; have F := sh.facts; (try simp only [Hp.Facts, Hp.CellsAt, Nat.reduceAdd, List.cons_append, List.nil_append] at F))
            | fail)
        go_roundw
        case rel =>
          refine ⟨k + 1, hk.set k (s', hz, cap'), cur.setIfInBounds k (.slice s' ln cap'), by go_num, by omega, ⟨?_, ?_, ?_, ?_, ?_⟩, sh.imp ?_⟩
          · rw [List.length_set]; exact HF.out.1
          · rw [HX.out _ rfl]; exact HF.out.2.1
          · intro h hh
            rcases List.mem_or_eq_of_mem_set hh with hh | rfl
            · exact HF.out.2.2.1 h hh
            · exact ⟨⟨fun h => by rw [HLN.out]; exact HNEW.out.1 h, by rw [HLN.out]; exact HNEW.out.2.1, by rw [HLN.out]; omega, HNEW.out.2.2⟩, by rw [HLN.out]; exact hs3⟩
          · rw [Array.size_setIfInBounds]; exact HF.out.2.2.2.1
          · rw [set_take _ _ _ _ _ HF.out.2.2.2.2, List.map_set]
            simp only [QueP.hdr, HLN.out]
          · intro W h
            refine ⟨fun h' hh => ?_, h.2.2⟩
            rcases List.mem_or_eq_of_mem_set hh with hh | rfl
            · exact h.2.1 h' hh
            · exact h.1
        case measure => simp [intOf]; omega
      · obtain rfl : k = n := by omega
        go_wp2_with (first
            | ((with_reducible refine Hp.wpl_box sh ?_ ?_); exact rfl; clear sh; (try clear F); go_simp; intro b w1 sh; have F := sh.facts; (try simp only [Hp.Facts, Hp.CellsAt, Nat.reduceAdd, List.cons_append, List.nil_append] at F))
            | ((with_reducible refine Hp.wpl_alloc Try.z_line sh ?_ ?_); exact rfl; clear sh; (try clear F); go_simp; intro b w1 sh; have F := sh.facts; (try simp only [Hp.Facts, Hp.CellsAt, Nat.reduceAdd, List.cons_append, List.nil_append] at F))
            | ((with_reducible refine Hp.atl_store ?_ ?_); exact rfl; (first | refine Hp.wp_store 0 sh rfl rfl rfl rfl (by kernel_rfl) (Nat.le_of_ble_eq_true rfl) rfl ?_ | refine Hp.wp_store 1 sh rfl rfl rfl rfl (by kernel_rfl) (Nat.le_of_ble_eq_true rfl) rfl ?_ | refine Hp.wp_store 2 sh rfl rfl rfl rfl (by kernel_rfl) (Nat.le_of_ble_eq_true rfl) rfl ?_ | refine Hp.wp_store 3 sh rfl rfl rfl rfl (by kernel_rfl) (Nat.le_of_ble_eq_true rfl) rfl ?_ | refine Hp.wp_store 4 sh rfl rfl rfl rfl (by kernel_rfl) (Nat.le_of_ble_eq_true rfl) rfl ?_ | refine Hp.wp_store 5 sh rfl rfl rfl rfl (by kernel_rfl) (Nat.le_of_ble_eq_true rfl) rfl ?_ | refine Hp.wp_store 6 sh rfl rfl rfl rfl (by kernel_rfl) (Nat.le_of_ble_eq_true rfl) rfl ?_); clear sh; (try clear F); go_simp; intro w1 sh; have F := sh.facts; (try simp only [Hp.Facts, Hp.CellsAt, Nat.reduceAdd, List.cons_append, List.nil_append] at F))
            | fail)
        refine bodyPost_ret (Hp.res_c rfl rfl (sh.load 0 rfl (by kernel_rfl) (by kernel_rfl))) rfl ⟨hk, [(g, cur, 28)], rfl, HF.out.2.1, fun h hh => (HF.out.2.2.1 h hh).1, sh.drop1, ?_, .inr ⟨g, cap, cur, rfl, rfl, hnc, by unfold maxLen; exact hcm, HF.out.2.2.2.1, HF.out.2.2.2.2⟩⟩
        simp [HF.out.1]

end Go.Proofs.Ytddfonekfopchaa
