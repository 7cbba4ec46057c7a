/-
  The walks of package queuing: Send, Receive, Room; the reference's Same and Big.
-/
import Derived.Test.YtddfonekfopchaaQue2
namespace Go.Proofs.Ytddfonekfopchaa
open Go.RowKit
set_option linter.unusedVariables false
set_option linter.unusedSimpArgs false

namespace QueP
abbrev QL := Option Addr × List Hd × Nat
def qlen (q : QL) : Nat := q.2.1.length
def qd (q : QL) : List (List Int) := q.2.1.map (·.2.1)
def QShape (q : QL) : Prop := (q.1 = none → q.2.1.length = 0 ∧ q.2.2 = 0) ∧ q.2.1.length ≤ q.2.2 ∧ q.2.2 ≤ maxLen ∧ q.2.1.length ≤ 9223372036854775807 ∧ ∀ h ∈ q.2.1, Shape h
def QOk (W : World) (q : QL) : Prop := Hp.RdV W q.1 (q.2.1.map hdr) ∧ Ok W q.2.1
def isd (size dep : Int) (zss : List (List Int)) : Bool := is size dep (zss.map List.length)
theorem is_qd (size dep : Int) (hs : List Hd) : is size dep (hs.map len) = isd size dep (hs.map (·.2.1)) := by
  simp only [isd, List.map_map]; rfl
def scode (size dep : Int) (zss : List (List Int)) (m : Nat) : Int := if isd size dep zss = false then 1 else if fit size m = false then 2 else if dep ≤ (zss.length : Int) then 8 else 0
def rcode (size dep : Int) (zss : List (List Int)) : Int := if isd size dep zss = false then 1 else if zss.length = 0 then 15 else 0
def QS0 : QL := (none, [], 0)
theorem QShape0 : QShape (none, [], 0) := ⟨fun _ => ⟨rfl, rfl⟩, by simp, by simp [maxLen], by simp, by simp⟩
theorem QOk0 (W : World) : QOk W (none, [], 0) := ⟨Hp.RdV.nil _ _, fun h hh => by cases hh⟩
/-- What Send hands back. -/
def SendP (size dep : Int) (q : QL) (zs : List Int) (w0 : World) (H : List Hp.Blk) (D : World → Prop) (e : Ending) (w' : World) : Prop :=
  ∃ s' hs' cap' n' c, e = .returned (.tuple #[.agg #[.slice s' n' cap'], .int .i64 c]) ∧ Hid (n' = hs'.length ∧ c = scode size dep (qd q) zs.length ∧ QShape (s', hs', cap') ∧ (c = 0 → qd (s', hs', cap') = qd q ++ [zs])) ∧ Hp.Sh w0 w' H (fun W => QOk W (s', hs', cap') ∧ D W)
/-- What Receive hands back. -/
def RecvP (size dep : Int) (q : QL) (w0 : World) (H : List Hp.Blk) (D : World → Prop) (e : Ending) (w' : World) : Prop :=
  ∃ xs xz xc xn s' hs' cap' n' c, e = .returned (.tuple #[.slice xs xn xc, .agg #[.slice s' n' cap'], .int .i64 c]) ∧ Hid (n' = hs'.length ∧ xn = xz.length ∧ c = rcode size dep (qd q) ∧ QShape (s', hs', cap') ∧ Shape (xs, xz, xc) ∧ (c = 0 → qd q = xz :: qd (s', hs', cap'))) ∧ Hp.Sh w0 w' H (fun W => (Hp.RdV W xs (ints xz) ∧ QOk W (s', hs', cap')) ∧ D W)
theorem isd_small {size dep : Int} {hs : List Hd} (h : isd size dep (hs.map (·.2.1)) = true) : ∀ h ∈ hs, h.2.1.length ≤ 1073741824 := by
  simp only [isd, is, Bool.and_eq_true, decide_eq_true_eq, List.all_eq_true, List.mem_map] at h
  intro x hx
  have h1 := h.2 x.2.1.length ⟨x.2.1, ⟨x, hx, rfl⟩, rfl⟩
  simp only [fit, Bool.and_eq_true, decide_eq_true_eq] at h1
  omega
theorem fit_small {size dep : Int} {zss : List (List Int)} {m : Nat} (hf : fit size m = true) (h : isd size dep zss = true) : m ≤ 1073741824 := by
  simp only [isd, is, Bool.and_eq_true, decide_eq_true_eq] at h
  simp only [fit, Bool.and_eq_true, decide_eq_true_eq] at hf
  omega
end QueP

set_option maxHeartbeats 1000000 in
set_option maxRecDepth 100000 in
theorem qsend (kd fr tg size dep : Int) (s : Option Addr) (hs : List QueP.Hd) (cap n : Nat) (xs : Option Addr) (xz : List Int) (xc m : Nat) (w0 w : World) (H : List Hp.Blk) (D : World → Prop) (sh : Hp.Sh w0 w H D) (hsz : -9223372036854775808 ≤ size ∧ size ≤ 9223372036854775807) (hdp : -9223372036854775808 ≤ dep ∧ dep ≤ 9223372036854775807)
    (hn : n = hs.length) (hm : m = xz.length) (hq : QueP.QShape (s, hs, cap)) (hx : QueP.Shape (xs, xz, xc)) (hqo : ∀ W, D W → QueP.QOk W (s, hs, cap)) (hxo : ∀ W, D W → Hp.RdV W xs (ints xz)) :
    Calls Try.prog 5 #[.agg #[.int .i64 kd, .int .i64 fr, .int .i64 tg, .int .i64 size, .int .i64 dep], .agg #[.slice s n cap], .slice xs m xc] w
      (QueP.SendP size dep (s, hs, cap) xz w0 H D) := by
  have hq4 : n ≤ 9223372036854775807 := by rw [hn]; exact hq.2.2.2.1
  have hm4 : m ≤ 9223372036854775807 := by rw [hm]; exact hx.2.2.1
  have HI := Lib.hid (fun W h => qis kd fr tg size dep s hs n cap W hsz hdp hn hq4 hq.2.2.2.2 h)
  rw [QueP.is_qd] at HI
  have HF := Lib.hid (fun W => qfit kd fr tg size dep xs m xc W hsz (by omega))
  have HQ := Lib.hid hq
  have HX := Lib.hid hx
  have HQO := Lib.hid hqo
  have HXO := Lib.hid hxo
  have HN := Lib.hid hn
  have HM := Lib.hid hm
  clear hq hx hqo hxo hn hm
  cases hi : QueP.isd size dep (hs.map (·.2.1)) with
  | false =>
    rw [hi] at HI
    have hc : QueP.scode size dep (QueP.qd (s, hs, cap)) xz.length = 1 := by simp [QueP.scode, QueP.qd, hi]
    have HC := Lib.hid hc
    clear hc hi
    go_enter Try.func5, Try.ntmps5
    have tok_bc : True := trivial
    have tok_bq : True := trivial
    have tok_bl : True := trivial
    go_wp2_with (first
        | ((have tok := tok_bc); clear tok tok_bc; (first | (with_reducible refine Hp.wpl_box sh ?_ ?_) | (with_reducible refine Hp.wpl_alloc Try.z_line sh ?_ ?_)); exact rfl; clear sh; (try clear F); go_simp; intro bc w1 sh; have F := sh.facts; (try simp only [Hp.Facts, Hp.CellsAt, Nat.reduceAdd, List.cons_append, List.nil_append] at F))
        | ((have tok := tok_bq); clear tok tok_bq; (first | (with_reducible refine Hp.wpl_box sh ?_ ?_) | (with_reducible refine Hp.wpl_alloc Try.z_line sh ?_ ?_)); exact rfl; clear sh; (try clear F); go_simp; intro bq w1 sh; have F := sh.facts; (try simp only [Hp.Facts, Hp.CellsAt, Nat.reduceAdd, List.cons_append, List.nil_append] at F))
        | ((have tok := tok_bl); clear tok tok_bl; (first | (with_reducible refine Hp.wpl_box sh ?_ ?_) | (with_reducible refine Hp.wpl_alloc Try.z_line sh ?_ ?_)); exact rfl; clear sh; (try clear F); go_simp; intro bl w1 sh; have F := sh.facts; (try simp only [Hp.Facts, Hp.CellsAt, Nat.reduceAdd, List.cons_append, List.nil_append] at F))
        | ((with_reducible refine Hp.wpl_box sh ?_ ?_); exact rfl; clear sh; (try clear F); go_simp; intro b w1 sh; have F := sh.facts; (try simp only [Hp.Facts, Hp.CellsAt, Nat.reduceAdd, List.cons_append, List.nil_append] at F))
        | ((with_reducible refine Hp.wpl_alloc Try.z_line sh ?_ ?_); exact rfl; clear sh; (try clear F); go_simp; intro b w1 sh; have F := sh.facts; (try simp only [Hp.Facts, Hp.CellsAt, Nat.reduceAdd, List.cons_append, List.nil_append] at F))
        | ((with_reducible refine Hp.atl_store ?_ ?_); exact rfl; (first | refine Hp.wp_store 0 sh rfl rfl rfl rfl (by kernel_rfl) (Nat.le_of_ble_eq_true rfl) rfl ?_ | refine Hp.wp_store 1 sh rfl rfl rfl rfl (by kernel_rfl) (Nat.le_of_ble_eq_true rfl) rfl ?_ | refine Hp.wp_store 2 sh rfl rfl rfl rfl (by kernel_rfl) (Nat.le_of_ble_eq_true rfl) rfl ?_ | refine Hp.wp_store 3 sh rfl rfl rfl rfl (by kernel_rfl) (Nat.le_of_ble_eq_true rfl) rfl ?_ | refine Hp.wp_store 4 sh rfl rfl rfl rfl (by kernel_rfl) (Nat.le_of_ble_eq_true rfl) rfl ?_ | refine Hp.wp_store 5 sh rfl rfl rfl rfl (by kernel_rfl) (Nat.le_of_ble_eq_true rfl) rfl ?_ | refine Hp.wp_store 6 sh rfl rfl rfl rfl (by kernel_rfl) (Nat.le_of_ble_eq_true rfl) rfl ?_); clear sh; (try clear F); go_simp; intro w1 sh; have F := sh.facts; (try simp only [Hp.Facts, Hp.CellsAt, Nat.reduceAdd, List.cons_append, List.nil_append] at F))
        | fail)
    go_fit (HI.out _ (HQO.out _ sh.data).1)
    rintro e w1 ⟨rfl, hb⟩
    replace sh := sh.call hb; clear hb; (try clear F); have F := sh.facts; (try simp only [Hp.Facts, Hp.CellsAt, Nat.reduceAdd, List.cons_append, List.nil_append] at F)
    go_wp2_with (first
        | ((with_reducible refine Hp.wpl_box sh ?_ ?_); exact rfl; clear sh; (try clear F); go_simp; intro b w1 sh; have F := sh.facts; (try simp only [Hp.Facts, Hp.CellsAt, Nat.reduceAdd, List.cons_append, List.nil_append] at F))
        | ((with_reducible refine Hp.wpl_alloc Try.z_line sh ?_ ?_); exact rfl; clear sh; (try clear F); go_simp; intro b w1 sh; have F := sh.facts; (try simp only [Hp.Facts, Hp.CellsAt, Nat.reduceAdd, List.cons_append, List.nil_append] at F))
        | ((with_reducible refine Hp.atl_store ?_ ?_); exact rfl; (first | refine Hp.wp_store 0 sh rfl rfl rfl rfl (by kernel_rfl) (Nat.le_of_ble_eq_true rfl) rfl ?_ | refine Hp.wp_store 1 sh rfl rfl rfl rfl (by kernel_rfl) (Nat.le_of_ble_eq_true rfl) rfl ?_ | refine Hp.wp_store 2 sh rfl rfl rfl rfl (by kernel_rfl) (Nat.le_of_ble_eq_true rfl) rfl ?_ | refine Hp.wp_store 3 sh rfl rfl rfl rfl (by kernel_rfl) (Nat.le_of_ble_eq_true rfl) rfl ?_ | refine Hp.wp_store 4 sh rfl rfl rfl rfl (by kernel_rfl) (Nat.le_of_ble_eq_true rfl) rfl ?_ | refine Hp.wp_store 5 sh rfl rfl rfl rfl (by kernel_rfl) (Nat.le_of_ble_eq_true rfl) rfl ?_ | refine Hp.wp_store 6 sh rfl rfl rfl rfl (by kernel_rfl) (Nat.le_of_ble_eq_true rfl) rfl ?_); clear sh; (try clear F); go_simp; intro w1 sh; have F := sh.facts; (try simp only [Hp.Facts, Hp.CellsAt, Nat.reduceAdd, List.cons_append, List.nil_append] at F))
        | fail)
    refine bodyPost_ret (Hp.res_ct rfl rfl (sh.load 0 rfl (by kernel_rfl) (by kernel_rfl))) rfl ⟨none, [], 0, 0, 1, rfl, ⟨rfl, HC.out.symm, QueP.QShape0, by simp⟩, sh.drop3.imp fun W h => ⟨QueP.QOk0 W, h⟩⟩
  | true =>
    rw [hi] at HI
    cases hf : QueP.fit size m with
    | false =>
      rw [hf] at HF
      have hc : QueP.scode size dep (QueP.qd (s, hs, cap)) xz.length = 2 := by simp [QueP.scode, QueP.qd, hi, ← HM.out, hf]
      have HC := Lib.hid hc
      clear hc hi hf
      go_enter Try.func5, Try.ntmps5
      have tok_bc : True := trivial
      have tok_bq : True := trivial
      have tok_bl : True := trivial
      go_wp2_with (first
          | ((have tok := tok_bc); clear tok tok_bc; (first | (with_reducible refine Hp.wpl_box sh ?_ ?_) | (with_reducible refine Hp.wpl_alloc Try.z_line sh ?_ ?_)); exact rfl; clear sh; (try clear F); go_simp; intro bc w1 sh; have F := sh.facts; (try simp only [Hp.Facts, Hp.CellsAt, Nat.reduceAdd, List.cons_append, List.nil_append] at F))
          | ((have tok := tok_bq); clear tok tok_bq; (first | (with_reducible refine Hp.wpl_box sh ?_ ?_) | (with_reducible refine Hp.wpl_alloc Try.z_line sh ?_ ?_)); exact rfl; clear sh; (try clear F); go_simp; intro bq w1 sh; have F := sh.facts; (try simp only [Hp.Facts, Hp.CellsAt, Nat.reduceAdd, List.cons_append, List.nil_append] at F))
          | ((have tok := tok_bl); clear tok tok_bl; (first | (with_reducible refine Hp.wpl_box sh ?_ ?_) | (with_reducible refine Hp.wpl_alloc Try.z_line sh ?_ ?_)); exact rfl; clear sh; (try clear F); go_simp; intro bl w1 sh; have F := sh.facts; (try simp only [Hp.Facts, Hp.CellsAt, Nat.reduceAdd, List.cons_append, List.nil_append] at F))
          | ((with_reducible refine Hp.wpl_box sh ?_ ?_); exact rfl; clear sh; (try clear F); go_simp; intro b w1 sh; have F := sh.facts; (try simp only [Hp.Facts, Hp.CellsAt, Nat.reduceAdd, List.cons_append, List.nil_append] at F))
          | ((with_reducible refine Hp.wpl_alloc Try.z_line sh ?_ ?_); exact rfl; clear sh; (try clear F); go_simp; intro b w1 sh; have F := sh.facts; (try simp only [Hp.Facts, Hp.CellsAt, Nat.reduceAdd, List.cons_append, List.nil_append] at F))
          | ((with_reducible refine Hp.atl_store ?_ ?_); exact rfl; (first | refine Hp.wp_store 0 sh rfl rfl rfl rfl (by kernel_rfl) (Nat.le_of_ble_eq_true rfl) rfl ?_ | refine Hp.wp_store 1 sh rfl rfl rfl rfl (by kernel_rfl) (Nat.le_of_ble_eq_true rfl) rfl ?_ | refine Hp.wp_store 2 sh rfl rfl rfl rfl (by kernel_rfl) (Nat.le_of_ble_eq_true rfl) rfl ?_ | refine Hp.wp_store 3 sh rfl rfl rfl rfl (by kernel_rfl) (Nat.le_of_ble_eq_true rfl) rfl ?_ | refine Hp.wp_store 4 sh rfl rfl rfl rfl (by kernel_rfl) (Nat.le_of_ble_eq_true rfl) rfl ?_ | refine Hp.wp_store 5 sh rfl rfl rfl rfl (by kernel_rfl) (Nat.le_of_ble_eq_true rfl) rfl ?_ | refine Hp.wp_store 6 sh rfl rfl rfl rfl (by kernel_rfl) (Nat.le_of_ble_eq_true rfl) rfl ?_); clear sh; (try clear F); go_simp; intro w1 sh; have F := sh.facts; (try simp only [Hp.Facts, Hp.CellsAt, Nat.reduceAdd, List.cons_append, List.nil_append] at F))
          | fail)
      go_fit (HI.out _ (HQO.out _ sh.data).1)
      rintro e w1 ⟨rfl, hb⟩
      replace sh := sh.call hb; clear hb; (try clear F); have F := sh.facts; (try simp only [Hp.Facts, Hp.CellsAt, Nat.reduceAdd, List.cons_append, List.nil_append] at F)
      go_wp2_with (first
          | ((with_reducible refine Hp.wpl_box sh ?_ ?_); exact rfl; clear sh; (try clear F); go_simp; intro b w1 sh; have F := sh.facts; (try simp only [Hp.Facts, Hp.CellsAt, Nat.reduceAdd, List.cons_append, List.nil_append] at F))
          | ((with_reducible refine Hp.wpl_alloc Try.z_line sh ?_ ?_); exact rfl; clear sh; (try clear F); go_simp; intro b w1 sh; have F := sh.facts; (try simp only [Hp.Facts, Hp.CellsAt, Nat.reduceAdd, List.cons_append, List.nil_append] at F))
          | ((with_reducible refine Hp.atl_store ?_ ?_); exact rfl; (first | refine Hp.wp_store 0 sh rfl rfl rfl rfl (by kernel_rfl) (Nat.le_of_ble_eq_true rfl) rfl ?_ | refine Hp.wp_store 1 sh rfl rfl rfl rfl (by kernel_rfl) (Nat.le_of_ble_eq_true rfl) rfl ?_ | refine Hp.wp_store 2 sh rfl rfl rfl rfl (by kernel_rfl) (Nat.le_of_ble_eq_true rfl) rfl ?_ | refine Hp.wp_store 3 sh rfl rfl rfl rfl (by kernel_rfl) (Nat.le_of_ble_eq_true rfl) rfl ?_ | refine Hp.wp_store 4 sh rfl rfl rfl rfl (by kernel_rfl) (Nat.le_of_ble_eq_true rfl) rfl ?_ | refine Hp.wp_store 5 sh rfl rfl rfl rfl (by kernel_rfl) (Nat.le_of_ble_eq_true rfl) rfl ?_ | refine Hp.wp_store 6 sh rfl rfl rfl rfl (by kernel_rfl) (Nat.le_of_ble_eq_true rfl) rfl ?_); clear sh; (try clear F); go_simp; intro w1 sh; have F := sh.facts; (try simp only [Hp.Facts, Hp.CellsAt, Nat.reduceAdd, List.cons_append, List.nil_append] at F))
          | fail)
      go_fit (HF.out _)
      rintro e w1 ⟨rfl, hb⟩
      replace sh := sh.call hb; clear hb; (try clear F); have F := sh.facts; (try simp only [Hp.Facts, Hp.CellsAt, Nat.reduceAdd, List.cons_append, List.nil_append] at F)
      go_wp2_with (first
          | ((with_reducible refine Hp.wpl_box sh ?_ ?_); exact rfl; clear sh; (try clear F); go_simp; intro b w1 sh; have F := sh.facts; (try simp only [Hp.Facts, Hp.CellsAt, Nat.reduceAdd, List.cons_append, List.nil_append] at F))
          | ((with_reducible refine Hp.wpl_alloc Try.z_line sh ?_ ?_); exact rfl; clear sh; (try clear F); go_simp; intro b w1 sh; have F := sh.facts; (try simp only [Hp.Facts, Hp.CellsAt, Nat.reduceAdd, List.cons_append, List.nil_append] at F))
          | ((with_reducible refine Hp.atl_store ?_ ?_); exact rfl; (first | refine Hp.wp_store 0 sh rfl rfl rfl rfl (by kernel_rfl) (Nat.le_of_ble_eq_true rfl) rfl ?_ | refine Hp.wp_store 1 sh rfl rfl rfl rfl (by kernel_rfl) (Nat.le_of_ble_eq_true rfl) rfl ?_ | refine Hp.wp_store 2 sh rfl rfl rfl rfl (by kernel_rfl) (Nat.le_of_ble_eq_true rfl) rfl ?_ | refine Hp.wp_store 3 sh rfl rfl rfl rfl (by kernel_rfl) (Nat.le_of_ble_eq_true rfl) rfl ?_ | refine Hp.wp_store 4 sh rfl rfl rfl rfl (by kernel_rfl) (Nat.le_of_ble_eq_true rfl) rfl ?_ | refine Hp.wp_store 5 sh rfl rfl rfl rfl (by kernel_rfl) (Nat.le_of_ble_eq_true rfl) rfl ?_ | refine Hp.wp_store 6 sh rfl rfl rfl rfl (by kernel_rfl) (Nat.le_of_ble_eq_true rfl) rfl ?_); clear sh; (try clear F); go_simp; intro w1 sh; have F := sh.facts; (try simp only [Hp.Facts, Hp.CellsAt, Nat.reduceAdd, List.cons_append, List.nil_append] at F))
          | fail)
      refine bodyPost_ret (Hp.res_ct rfl rfl (sh.load 0 rfl (by kernel_rfl) (by kernel_rfl))) rfl ⟨none, [], 0, 0, 2, rfl, ⟨rfl, HC.out.symm, QueP.QShape0, by simp⟩, sh.drop3.imp fun W h => ⟨QueP.QOk0 W, h⟩⟩
    | true =>
      rw [hf] at HF
      by_cases hd : dep ≤ (n : Int)
      · have hc : QueP.scode size dep (QueP.qd (s, hs, cap)) xz.length = 8 := by simp [QueP.scode, QueP.qd, hi, ← HM.out, hf, ← HN.out, hd]
        have HC := Lib.hid hc
        clear hc hi hf
        go_enter Try.func5, Try.ntmps5
        have tok_bc : True := trivial
        have tok_bq : True := trivial
        have tok_bl : True := trivial
        go_wp2_with (first
            | ((have tok := tok_bc); clear tok tok_bc; (first | (with_reducible refine Hp.wpl_box sh ?_ ?_) | (with_reducible refine Hp.wpl_alloc Try.z_line sh ?_ ?_)); exact rfl; clear sh; (try clear F); go_simp; intro bc w1 sh; have F := sh.facts; (try simp only [Hp.Facts, Hp.CellsAt, Nat.reduceAdd, List.cons_append, List.nil_append] at F))
            | ((have tok := tok_bq); clear tok tok_bq; (first | (with_reducible refine Hp.wpl_box sh ?_ ?_) | (with_reducible refine Hp.wpl_alloc Try.z_line sh ?_ ?_)); exact rfl; clear sh; (try clear F); go_simp; intro bq w1 sh; have F := sh.facts; (try simp only [Hp.Facts, Hp.CellsAt, Nat.reduceAdd, List.cons_append, List.nil_append] at F))
            | ((have tok := tok_bl); clear tok tok_bl; (first | (with_reducible refine Hp.wpl_box sh ?_ ?_) | (with_reducible refine Hp.wpl_alloc Try.z_line sh ?_ ?_)); exact rfl; clear sh; (try clear F); go_simp; intro bl w1 sh; have F := sh.facts; (try simp only [Hp.Facts, Hp.CellsAt, Nat.reduceAdd, List.cons_append, List.nil_append] at F))
            | ((with_reducible refine Hp.wpl_box sh ?_ ?_); exact rfl; clear sh; (try clear F); go_simp; intro b w1 sh; have F := sh.facts; (try simp only [Hp.Facts, Hp.CellsAt, Nat.reduceAdd, List.cons_append, List.nil_append] at F))
            | ((with_reducible refine Hp.wpl_alloc Try.z_line sh ?_ ?_); exact rfl; clear sh; (try clear F); go_simp; intro b w1 sh; have F := sh.facts; (try simp only [Hp.Facts, Hp.CellsAt, Nat.reduceAdd, List.cons_append, List.nil_append] at F))
            | ((with_reducible refine Hp.atl_store ?_ ?_); exact rfl; (first | refine Hp.wp_store 0 sh rfl rfl rfl rfl (by kernel_rfl) (Nat.le_of_ble_eq_true rfl) rfl ?_ | refine Hp.wp_store 1 sh rfl rfl rfl rfl (by kernel_rfl) (Nat.le_of_ble_eq_true rfl) rfl ?_ | refine Hp.wp_store 2 sh rfl rfl rfl rfl (by kernel_rfl) (Nat.le_of_ble_eq_true rfl) rfl ?_ | refine Hp.wp_store 3 sh rfl rfl rfl rfl (by kernel_rfl) (Nat.le_of_ble_eq_true rfl) rfl ?_ | refine Hp.wp_store 4 sh rfl rfl rfl rfl (by kernel_rfl) (Nat.le_of_ble_eq_true rfl) rfl ?_ | refine Hp.wp_store 5 sh rfl rfl rfl rfl (by kernel_rfl) (Nat.le_of_ble_eq_true rfl) rfl ?_ | refine Hp.wp_store 6 sh rfl rfl rfl rfl (by kernel_rfl) (Nat.le_of_ble_eq_true rfl) rfl ?_); clear sh; (try clear F); go_simp; intro w1 sh; have F := sh.facts; (try simp only [Hp.Facts, Hp.CellsAt, Nat.reduceAdd, List.cons_append, List.nil_append] at F))
            | fail)
        go_fit (HI.out _ (HQO.out _ sh.data).1)
        rintro e w1 ⟨rfl, hb⟩
        replace sh := sh.call hb; clear hb; (try clear F); have F := sh.facts; (try simp only [Hp.Facts, Hp.CellsAt, Nat.reduceAdd, List.cons_append, List.nil_append] at F)
        go_wp2_with (first
            | ((with_reducible refine Hp.wpl_box sh ?_ ?_); exact rfl; clear sh; (try clear F); go_simp; intro b w1 sh; have F := sh.facts; (try simp only [Hp.Facts, Hp.CellsAt, Nat.reduceAdd, List.cons_append, List.nil_append] at F))
            | ((with_reducible refine Hp.wpl_alloc Try.z_line sh ?_ ?_); exact rfl; clear sh; (try clear F); go_simp; intro b w1 sh; have F := sh.facts; (try simp only [Hp.Facts, Hp.CellsAt, Nat.reduceAdd, List.cons_append, List.nil_append] at F))
            | ((with_reducible refine Hp.atl_store ?_ ?_); exact rfl; (first | refine Hp.wp_store 0 sh rfl rfl rfl rfl (by kernel_rfl) (Nat.le_of_ble_eq_true rfl) rfl ?_ | refine Hp.wp_store 1 sh rfl rfl rfl rfl (by kernel_rfl) (Nat.le_of_ble_eq_true rfl) rfl ?_ | refine Hp.wp_store 2 sh rfl rfl rfl rfl (by kernel_rfl) (Nat.le_of_ble_eq_true rfl) rfl ?_ | refine Hp.wp_store 3 sh rfl rfl rfl rfl (by kernel_rfl) (Nat.le_of_ble_eq_true rfl) rfl ?_ | refine Hp.wp_store 4 sh rfl rfl rfl rfl (by kernel_rfl) (Nat.le_of_ble_eq_true rfl) rfl ?_ | refine Hp.wp_store 5 sh rfl rfl rfl rfl (by kernel_rfl) (Nat.le_of_ble_eq_true rfl) rfl ?_ | refine Hp.wp_store 6 sh rfl rfl rfl rfl (by kernel_rfl) (Nat.le_of_ble_eq_true rfl) rfl ?_); clear sh; (try clear F); go_simp; intro w1 sh; have F := sh.facts; (try simp only [Hp.Facts, Hp.CellsAt, Nat.reduceAdd, List.cons_append, List.nil_append] at F))
            | fail)
        go_fit (HF.out _)
        rintro e w1 ⟨rfl, hb⟩
        replace sh := sh.call hb; clear hb; (try clear F); have F := sh.facts; (try simp only [Hp.Facts, Hp.CellsAt, Nat.reduceAdd, List.cons_append, List.nil_append] at F)
        go_wp2_with (first
            | ((with_reducible refine Hp.wpl_box sh ?_ ?_); exact rfl; clear sh; (try clear F); go_simp; intro b w1 sh; have F := sh.facts; (try simp only [Hp.Facts, Hp.CellsAt, Nat.reduceAdd, List.cons_append, List.nil_append] at F))
            | ((with_reducible refine Hp.wpl_alloc Try.z_line sh ?_ ?_); exact rfl; clear sh; (try clear F); go_simp; intro b w1 sh; have F := sh.facts; (try simp only [Hp.Facts, Hp.CellsAt, Nat.reduceAdd, List.cons_append, List.nil_append] at F))
            | ((with_reducible refine Hp.atl_store ?_ ?_); exact rfl; (first | refine Hp.wp_store 0 sh rfl rfl rfl rfl (by kernel_rfl) (Nat.le_of_ble_eq_true rfl) rfl ?_ | refine Hp.wp_store 1 sh rfl rfl rfl rfl (by kernel_rfl) (Nat.le_of_ble_eq_true rfl) rfl ?_ | refine Hp.wp_store 2 sh rfl rfl rfl rfl (by kernel_rfl) (Nat.le_of_ble_eq_true rfl) rfl ?_ | refine Hp.wp_store 3 sh rfl rfl rfl rfl (by kernel_rfl) (Nat.le_of_ble_eq_true rfl) rfl ?_ | refine Hp.wp_store 4 sh rfl rfl rfl rfl (by kernel_rfl) (Nat.le_of_ble_eq_true rfl) rfl ?_ | refine Hp.wp_store 5 sh rfl rfl rfl rfl (by kernel_rfl) (Nat.le_of_ble_eq_true rfl) rfl ?_ | refine Hp.wp_store 6 sh rfl rfl rfl rfl (by kernel_rfl) (Nat.le_of_ble_eq_true rfl) rfl ?_); clear sh; (try clear F); go_simp; intro w1 sh; have F := sh.facts; (try simp only [Hp.Facts, Hp.CellsAt, Nat.reduceAdd, List.cons_append, List.nil_append] at F))
            | fail)
        refine bodyPost_ret (Hp.res_ct rfl rfl (sh.load 0 rfl (by kernel_rfl) (by kernel_rfl))) rfl ⟨none, [], 0, 0, 8, rfl, ⟨rfl, HC.out.symm, QueP.QShape0, by simp⟩, sh.drop3.imp fun W h => ⟨QueP.QOk0 W, h⟩⟩
      · have hc : QueP.scode size dep (QueP.qd (s, hs, cap)) xz.length = 0 := by simp [QueP.scode, QueP.qd, hi, ← HM.out, hf, ← HN.out, hd]
        have HC := Lib.hid hc
        have hsm := QueP.isd_small hi
        have hfm := QueP.fit_small hf hi
        have hle : n ≤ 16 := by
          simp only [QueP.isd, QueP.is, Bool.and_eq_true, decide_eq_true_eq, List.length_map] at hi
          omega
        have HSM := Lib.hid hsm
        have HFM := Lib.hid hfm
        clear hc hi hf hsm hfm
        have CH := Lib.hid (fun (b : Nat) (w : World) (H : List Hp.Blk) (D : World → Prop) sh hv hw => qchR_any s (hs.map QueP.hdr) n cap 0 (some ⟨b, 0, none⟩) [.slice xs m xc] 1 1 w0 w H D sh (by rw [List.length_map]; exact HN.out) rfl (by omega) (by omega) (by omega) (by rw [HN.out]; exact HQ.out.2.1) HQ.out.2.2.1 (fun h => by rw [HN.out]; exact HQ.out.1 h) (fun h => by cases h) hv hw QueP.hdr_one (by intro v hv; simp only [List.mem_singleton] at hv; subst hv; rfl))
        simp only [Int.ofNat_zero, Int.natCast_zero, Nat.sub_zero, List.drop_zero, Int.cast_ofNat_Int] at CH
        have LN := Lib.hid (fun (s' : Option Addr) (cap' : Nat) (R : List Hp.Blk) (w : World) (H : List Hp.Blk) (D : World → Prop) sh hr hok => qline (hs ++ [(xs, xz, xc)]) s' cap' (n + 1) R w0 w H D sh hr hok (by
          intro h hh
          rcases List.mem_append.1 hh with hh | hh
          · exact HQ.out.2.2.2.2 h hh
          · simp only [List.mem_singleton] at hh
            subst hh
            exact HX.out) (by
          intro h hh
          rcases List.mem_append.1 hh with hh | hh
          · exact HSM.out h hh
          · simp only [List.mem_singleton] at hh
            subst hh
            simp only [← HM.out]
            exact HFM.out) (by omega))
        go_enter Try.func5, Try.ntmps5
        have tok_bc : True := trivial
        have tok_bq : True := trivial
        have tok_bl : True := trivial
        go_wp2_with (first
            | ((have tok := tok_bc); clear tok tok_bc; (first | (with_reducible refine Hp.wpl_box sh ?_ ?_) | (with_reducible refine Hp.wpl_alloc Try.z_line sh ?_ ?_)); exact rfl; clear sh; (try clear F); go_simp; intro bc w1 sh; have F := sh.facts; (try simp only [Hp.Facts, Hp.CellsAt, Nat.reduceAdd, List.cons_append, List.nil_append] at F))
            | ((have tok := tok_bq); clear tok tok_bq; (first | (with_reducible refine Hp.wpl_box sh ?_ ?_) | (with_reducible refine Hp.wpl_alloc Try.z_line sh ?_ ?_)); exact rfl; clear sh; (try clear F); go_simp; intro bq w1 sh; have F := sh.facts; (try simp only [Hp.Facts, Hp.CellsAt, Nat.reduceAdd, List.cons_append, List.nil_append] at F))
            | ((have tok := tok_bl); clear tok tok_bl; (first | (with_reducible refine Hp.wpl_box sh ?_ ?_) | (with_reducible refine Hp.wpl_alloc Try.z_line sh ?_ ?_)); exact rfl; clear sh; (try clear F); go_simp; intro bl w1 sh; have F := sh.facts; (try simp only [Hp.Facts, Hp.CellsAt, Nat.reduceAdd, List.cons_append, List.nil_append] at F))
            | ((with_reducible refine Hp.wpl_box sh ?_ ?_); exact rfl; clear sh; (try clear F); go_simp; intro b w1 sh; have F := sh.facts; (try simp only [Hp.Facts, Hp.CellsAt, Nat.reduceAdd, List.cons_append, List.nil_append] at F))
            | ((with_reducible refine Hp.wpl_alloc Try.z_line sh ?_ ?_); exact rfl; clear sh; (try clear F); go_simp; intro b w1 sh; have F := sh.facts; (try simp only [Hp.Facts, Hp.CellsAt, Nat.reduceAdd, List.cons_append, List.nil_append] at F))
            | ((with_reducible refine Hp.atl_store ?_ ?_); exact rfl; (first | refine Hp.wp_store 0 sh rfl rfl rfl rfl (by kernel_rfl) (Nat.le_of_ble_eq_true rfl) rfl ?_ | refine Hp.wp_store 1 sh rfl rfl rfl rfl (by kernel_rfl) (Nat.le_of_ble_eq_true rfl) rfl ?_ | refine Hp.wp_store 2 sh rfl rfl rfl rfl (by kernel_rfl) (Nat.le_of_ble_eq_true rfl) rfl ?_ | refine Hp.wp_store 3 sh rfl rfl rfl rfl (by kernel_rfl) (Nat.le_of_ble_eq_true rfl) rfl ?_ | refine Hp.wp_store 4 sh rfl rfl rfl rfl (by kernel_rfl) (Nat.le_of_ble_eq_true rfl) rfl ?_ | refine Hp.wp_store 5 sh rfl rfl rfl rfl (by kernel_rfl) (Nat.le_of_ble_eq_true rfl) rfl ?_ | refine Hp.wp_store 6 sh rfl rfl rfl rfl (by kernel_rfl) (Nat.le_of_ble_eq_true rfl) rfl ?_); clear sh; (try clear F); go_simp; intro w1 sh; have F := sh.facts; (try simp only [Hp.Facts, Hp.CellsAt, Nat.reduceAdd, List.cons_append, List.nil_append] at F))
            | fail)
        go_fit (HI.out _ (HQO.out _ sh.data).1)
        rintro e w1 ⟨rfl, hb⟩
        replace sh := sh.call hb; clear hb; (try clear F); have F := sh.facts; (try simp only [Hp.Facts, Hp.CellsAt, Nat.reduceAdd, List.cons_append, List.nil_append] at F)
        go_wp2_with (first
            | ((with_reducible refine Hp.wpl_box sh ?_ ?_); exact rfl; clear sh; (try clear F); go_simp; intro b w1 sh; have F := sh.facts; (try simp only [Hp.Facts, Hp.CellsAt, Nat.reduceAdd, List.cons_append, List.nil_append] at F))
            | ((with_reducible refine Hp.wpl_alloc Try.z_line sh ?_ ?_); exact rfl; clear sh; (try clear F); go_simp; intro b w1 sh; have F := sh.facts; (try simp only [Hp.Facts, Hp.CellsAt, Nat.reduceAdd, List.cons_append, List.nil_append] at F))
            | ((with_reducible refine Hp.atl_store ?_ ?_); exact rfl; (first | refine Hp.wp_store 0 sh rfl rfl rfl rfl (by kernel_rfl) (Nat.le_of_ble_eq_true rfl) rfl ?_ | refine Hp.wp_store 1 sh rfl rfl rfl rfl (by kernel_rfl) (Nat.le_of_ble_eq_true rfl) rfl ?_ | refine Hp.wp_store 2 sh rfl rfl rfl rfl (by kernel_rfl) (Nat.le_of_ble_eq_true rfl) rfl ?_ | refine Hp.wp_store 3 sh rfl rfl rfl rfl (by kernel_rfl) (Nat.le_of_ble_eq_true rfl) rfl ?_ | refine Hp.wp_store 4 sh rfl rfl rfl rfl (by kernel_rfl) (Nat.le_of_ble_eq_true rfl) rfl ?_ | refine Hp.wp_store 5 sh rfl rfl rfl rfl (by kernel_rfl) (Nat.le_of_ble_eq_true rfl) rfl ?_ | refine Hp.wp_store 6 sh rfl rfl rfl rfl (by kernel_rfl) (Nat.le_of_ble_eq_true rfl) rfl ?_); clear sh; (try clear F); go_simp; intro w1 sh; have F := sh.facts; (try simp only [Hp.Facts, Hp.CellsAt, Nat.reduceAdd, List.cons_append, List.nil_append] at F))
            | fail)
        go_fit (HF.out _)
        rintro e w1 ⟨rfl, hb⟩
        replace sh := sh.call hb; clear hb; (try clear F); have F := sh.facts; (try simp only [Hp.Facts, Hp.CellsAt, Nat.reduceAdd, List.cons_append, List.nil_append] at F)
        go_wp2_with (first
            | ((with_reducible refine Hp.atl_lit ?_ ?_); exact rfl; (refine Hp.wp_lit 1 [Value.slice xs m xc] Try.i_row Try.underlying25 sh rfl rfl (by omega) rfl ?_); clear sh; (try clear F); intro b w1 sh; replace sh := sh.freeze1 (vs := [Value.slice xs m xc]) (fun i v h => by simpa using h); have F := sh.facts; (try simp only [Hp.Facts, Hp.CellsAt, Nat.reduceAdd, List.cons_append, List.nil_append] at F); go_simp)
            | ((with_reducible refine Hp.wpl_box sh ?_ ?_); exact rfl; clear sh; (try clear F); go_simp; intro b w1 sh; have F := sh.facts; (try simp only [Hp.Facts, Hp.CellsAt, Nat.reduceAdd, List.cons_append, List.nil_append] at F))
            | ((with_reducible refine Hp.wpl_alloc Try.z_line sh ?_ ?_); exact rfl; clear sh; (try clear F); go_simp; intro b w1 sh; have F := sh.facts; (try simp only [Hp.Facts, Hp.CellsAt, Nat.reduceAdd, List.cons_append, List.nil_append] at F))
            | ((with_reducible refine Hp.atl_store ?_ ?_); exact rfl; (first | refine Hp.wp_store 0 sh rfl rfl rfl rfl (by kernel_rfl) (Nat.le_of_ble_eq_true rfl) rfl ?_ | refine Hp.wp_store 1 sh rfl rfl rfl rfl (by kernel_rfl) (Nat.le_of_ble_eq_true rfl) rfl ?_ | refine Hp.wp_store 2 sh rfl rfl rfl rfl (by kernel_rfl) (Nat.le_of_ble_eq_true rfl) rfl ?_ | refine Hp.wp_store 3 sh rfl rfl rfl rfl (by kernel_rfl) (Nat.le_of_ble_eq_true rfl) rfl ?_ | refine Hp.wp_store 4 sh rfl rfl rfl rfl (by kernel_rfl) (Nat.le_of_ble_eq_true rfl) rfl ?_ | refine Hp.wp_store 5 sh rfl rfl rfl rfl (by kernel_rfl) (Nat.le_of_ble_eq_true rfl) rfl ?_ | refine Hp.wp_store 6 sh rfl rfl rfl rfl (by kernel_rfl) (Nat.le_of_ble_eq_true rfl) rfl ?_); clear sh; (try clear F); go_simp; intro w1 sh; have F := sh.facts; (try simp only [Hp.Facts, Hp.CellsAt, Nat.reduceAdd, List.cons_append, List.nil_append] at F))
            | fail)
        go_fit (CH.out _ _ _ _ sh (fun W h => (HQO.out W h.2).1) (fun W h => h.1))
        clear sh; (try clear F)
        rintro e w1 ⟨v', R', rfl, sh, hr'⟩
        have F := sh.facts; (try simp only [Hp.Facts, Hp.CellsAt, Nat.reduceAdd, List.cons_append, List.nil_append] at F)
        have hr2 := hr'
        obtain ⟨s', cap', rfl, -, -, -⟩ := hr'.slice
        clear hr'
        rw [show hs.map QueP.hdr ++ [Value.slice xs m xc] = (hs ++ [(xs, xz, xc)]).map QueP.hdr by simp [QueP.hdr, HM.out]] at hr2
        have HR2 := Lib.hid hr2
        clear hr2
        go_wp2_with fail
        go_fit (LN.out _ _ _ _ _ _ sh HR2.out (fun W h => by
          intro h' hh
          rcases List.mem_append.1 hh with hh | hh
          · exact (HQO.out W h.2).2 h' hh
          · simp only [List.mem_singleton] at hh
            subst hh
            exact HXO.out W h.2))
        clear sh F
        rintro e w1 ⟨hs', R2, rfl, hmap, hsh', sh, hr3⟩
        have hl3 := hr3.1
        obtain ⟨s3, cap3, hs3, hnone, hle, hmx⟩ := hr3.slice
        simp only [Value.slice.injEq, true_and] at hs3
        obtain ⟨rfl, rfl⟩ := hs3
        replace sh := sh.freeze hr3
        rw [List.length_map, Nat.mul_one] at hl3
        have HL3 := Lib.hid hl3
        have HN3 := Lib.hid hnone
        have HM3 := Lib.hid hmap
        have HS3 := Lib.hid hsh'
        have HX3 := Lib.hid hmx
        clear hr3 HR2 hl3 hnone hmap hsh' hmx
        have F := sh.facts; (try simp only [Hp.Facts, Hp.CellsAt, Nat.reduceAdd, List.cons_append, List.nil_append] at F)
        go_wp2_with (first
            | ((with_reducible refine Hp.wpl_box sh ?_ ?_); exact rfl; clear sh; (try clear F); go_simp; intro b w1 sh; have F := sh.facts; (try simp only [Hp.Facts, Hp.CellsAt, Nat.reduceAdd, List.cons_append, List.nil_append] at F))
            | ((with_reducible refine Hp.wpl_alloc Try.z_line sh ?_ ?_); exact rfl; clear sh; (try clear F); go_simp; intro b w1 sh; have F := sh.facts; (try simp only [Hp.Facts, Hp.CellsAt, Nat.reduceAdd, List.cons_append, List.nil_append] at F))
            | ((with_reducible refine Hp.atl_store ?_ ?_); exact rfl; (first | refine Hp.wp_store 0 sh rfl rfl rfl rfl (by kernel_rfl) (Nat.le_of_ble_eq_true rfl) rfl ?_ | refine Hp.wp_store 1 sh rfl rfl rfl rfl (by kernel_rfl) (Nat.le_of_ble_eq_true rfl) rfl ?_ | refine Hp.wp_store 2 sh rfl rfl rfl rfl (by kernel_rfl) (Nat.le_of_ble_eq_true rfl) rfl ?_ | refine Hp.wp_store 3 sh rfl rfl rfl rfl (by kernel_rfl) (Nat.le_of_ble_eq_true rfl) rfl ?_ | refine Hp.wp_store 4 sh rfl rfl rfl rfl (by kernel_rfl) (Nat.le_of_ble_eq_true rfl) rfl ?_ | refine Hp.wp_store 5 sh rfl rfl rfl rfl (by kernel_rfl) (Nat.le_of_ble_eq_true rfl) rfl ?_ | refine Hp.wp_store 6 sh rfl rfl rfl rfl (by kernel_rfl) (Nat.le_of_ble_eq_true rfl) rfl ?_); clear sh; (try clear F); go_simp; intro w1 sh; have F := sh.facts; (try simp only [Hp.Facts, Hp.CellsAt, Nat.reduceAdd, List.cons_append, List.nil_append] at F))
            | fail)
        refine bodyPost_ret (Hp.res_ct rfl rfl (sh.load 0 rfl (by kernel_rfl) (by kernel_rfl))) rfl ⟨s', hs', cap', n + 1, 0, rfl, ⟨HL3.out.symm, HC.out.symm, ⟨fun h => by rw [HL3.out]; exact HN3.out h, by rw [HL3.out]; exact hle, HX3.out, by rw [HL3.out]; omega, HS3.out⟩, fun _ => by simp only [QueP.qd, HM3.out, List.map_append, List.map_cons, List.map_nil]⟩, sh.drop3.imp fun W h => ⟨⟨h.1, h.2.1⟩, h.2.2.2⟩⟩

set_option maxHeartbeats 1000000 in
set_option maxRecDepth 100000 in
theorem qroom (kd fr tg size dep : Int) (s : Option Addr) (hs : List QueP.Hd) (cap n : Nat) (w : World) (hsz : -9223372036854775808 ≤ size ∧ size ≤ 9223372036854775807) (hdp : -9223372036854775808 ≤ dep ∧ dep ≤ 9223372036854775807)
    (hn : n = hs.length) (hq : QueP.QShape (s, hs, cap)) (hqo : QueP.QOk w (s, hs, cap)) :
    Calls Try.prog 11 #[.agg #[.int .i64 kd, .int .i64 fr, .int .i64 tg, .int .i64 size, .int .i64 dep], .agg #[.slice s n cap]] w
      fun e w' => e = .returned (.int .i64 (if QueP.isd size dep (hs.map (·.2.1)) then dep - n else 0)) ∧ Below w.heap.size w w' := by
  have hq4 : n ≤ 9223372036854775807 := by rw [hn]; exact hq.2.2.2.1
  have HI := Lib.hid (fun W h => qis kd fr tg size dep s hs n cap W hsz hdp hn hq4 hq.2.2.2.2 h)
  rw [QueP.is_qd] at HI
  have sh := Hp.Sh.start (RdV_rob hqo.1)
  have HN := Lib.hid hn
  clear hn hq hqo
  cases hi : QueP.isd size dep (hs.map (·.2.1)) with
  | false =>
    rw [hi] at HI
    clear hi
    go_enter Try.func11, Try.ntmps11
    go_wp2_with (first
        | ((with_reducible refine Hp.wpl_box sh ?_ ?_); exact rfl; clear sh; (try clear F); go_simp; intro b w1 sh; have F := sh.facts; (try simp only [Hp.Facts, Hp.CellsAt, Nat.reduceAdd, List.cons_append, List.nil_append] at F))
        | ((with_reducible refine Hp.wpl_alloc Try.z_line sh ?_ ?_); exact rfl; clear sh; (try clear F); go_simp; intro b w1 sh; have F := sh.facts; (try simp only [Hp.Facts, Hp.CellsAt, Nat.reduceAdd, List.cons_append, List.nil_append] at F))
        | ((with_reducible refine Hp.atl_store ?_ ?_); exact rfl; (first | refine Hp.wp_store 0 sh rfl rfl rfl rfl (by kernel_rfl) (Nat.le_of_ble_eq_true rfl) rfl ?_ | refine Hp.wp_store 1 sh rfl rfl rfl rfl (by kernel_rfl) (Nat.le_of_ble_eq_true rfl) rfl ?_ | refine Hp.wp_store 2 sh rfl rfl rfl rfl (by kernel_rfl) (Nat.le_of_ble_eq_true rfl) rfl ?_ | refine Hp.wp_store 3 sh rfl rfl rfl rfl (by kernel_rfl) (Nat.le_of_ble_eq_true rfl) rfl ?_ | refine Hp.wp_store 4 sh rfl rfl rfl rfl (by kernel_rfl) (Nat.le_of_ble_eq_true rfl) rfl ?_ | refine Hp.wp_store 5 sh rfl rfl rfl rfl (by kernel_rfl) (Nat.le_of_ble_eq_true rfl) rfl ?_ | refine Hp.wp_store 6 sh rfl rfl rfl rfl (by kernel_rfl) (Nat.le_of_ble_eq_true rfl) rfl ?_); clear sh; (try clear F); go_simp; intro w1 sh; have F := sh.facts; (try simp only [Hp.Facts, Hp.CellsAt, Nat.reduceAdd, List.cons_append, List.nil_append] at F))
        | fail)
    go_fit (HI.out _ sh.data)
    rintro e w1 ⟨rfl, hb⟩
    replace sh := sh.call hb; clear hb; (try clear F); have F := sh.facts; (try simp only [Hp.Facts, Hp.CellsAt, Nat.reduceAdd, List.cons_append, List.nil_append] at F)
    go_wp2_with (first
        | ((with_reducible refine Hp.wpl_box sh ?_ ?_); exact rfl; clear sh; (try clear F); go_simp; intro b w1 sh; have F := sh.facts; (try simp only [Hp.Facts, Hp.CellsAt, Nat.reduceAdd, List.cons_append, List.nil_append] at F))
        | ((with_reducible refine Hp.wpl_alloc Try.z_line sh ?_ ?_); exact rfl; clear sh; (try clear F); go_simp; intro b w1 sh; have F := sh.facts; (try simp only [Hp.Facts, Hp.CellsAt, Nat.reduceAdd, List.cons_append, List.nil_append] at F))
        | ((with_reducible refine Hp.atl_store ?_ ?_); exact rfl; (first | refine Hp.wp_store 0 sh rfl rfl rfl rfl (by kernel_rfl) (Nat.le_of_ble_eq_true rfl) rfl ?_ | refine Hp.wp_store 1 sh rfl rfl rfl rfl (by kernel_rfl) (Nat.le_of_ble_eq_true rfl) rfl ?_ | refine Hp.wp_store 2 sh rfl rfl rfl rfl (by kernel_rfl) (Nat.le_of_ble_eq_true rfl) rfl ?_ | refine Hp.wp_store 3 sh rfl rfl rfl rfl (by kernel_rfl) (Nat.le_of_ble_eq_true rfl) rfl ?_ | refine Hp.wp_store 4 sh rfl rfl rfl rfl (by kernel_rfl) (Nat.le_of_ble_eq_true rfl) rfl ?_ | refine Hp.wp_store 5 sh rfl rfl rfl rfl (by kernel_rfl) (Nat.le_of_ble_eq_true rfl) rfl ?_ | refine Hp.wp_store 6 sh rfl rfl rfl rfl (by kernel_rfl) (Nat.le_of_ble_eq_true rfl) rfl ?_); clear sh; (try clear F); go_simp; intro w1 sh; have F := sh.facts; (try simp only [Hp.Facts, Hp.CellsAt, Nat.reduceAdd, List.cons_append, List.nil_append] at F))
        | fail)
    go_ret
    exact ⟨rfl, sh.below⟩
  | true =>
    rw [hi] at HI
    have hle : n ≤ 16 ∧ 1 ≤ dep ∧ dep ≤ 16 := by
      simp only [QueP.isd, QueP.is, Bool.and_eq_true, decide_eq_true_eq, List.length_map] at hi
      have := HN.out
      omega
    obtain ⟨hle1, hle2, hle3⟩ := hle
    clear hi
    go_enter Try.func11, Try.ntmps11
    go_wp2_with (first
        | ((with_reducible refine Hp.wpl_box sh ?_ ?_); exact rfl; clear sh; (try clear F); go_simp; intro b w1 sh; have F := sh.facts; (try simp only [Hp.Facts, Hp.CellsAt, Nat.reduceAdd, List.cons_append, List.nil_append] at F))
        | ((with_reducible refine Hp.wpl_alloc Try.z_line sh ?_ ?_); exact rfl; clear sh; (try clear F); go_simp; intro b w1 sh; have F := sh.facts; (try simp only [Hp.Facts, Hp.CellsAt, Nat.reduceAdd, List.cons_append, List.nil_append] at F))
        | ((with_reducible refine Hp.atl_store ?_ ?_); exact rfl; (first | refine Hp.wp_store 0 sh rfl rfl rfl rfl (by kernel_rfl) (Nat.le_of_ble_eq_true rfl) rfl ?_ | refine Hp.wp_store 1 sh rfl rfl rfl rfl (by kernel_rfl) (Nat.le_of_ble_eq_true rfl) rfl ?_ | refine Hp.wp_store 2 sh rfl rfl rfl rfl (by kernel_rfl) (Nat.le_of_ble_eq_true rfl) rfl ?_ | refine Hp.wp_store 3 sh rfl rfl rfl rfl (by kernel_rfl) (Nat.le_of_ble_eq_true rfl) rfl ?_ | refine Hp.wp_store 4 sh rfl rfl rfl rfl (by kernel_rfl) (Nat.le_of_ble_eq_true rfl) rfl ?_ | refine Hp.wp_store 5 sh rfl rfl rfl rfl (by kernel_rfl) (Nat.le_of_ble_eq_true rfl) rfl ?_ | refine Hp.wp_store 6 sh rfl rfl rfl rfl (by kernel_rfl) (Nat.le_of_ble_eq_true rfl) rfl ?_); clear sh; (try clear F); go_simp; intro w1 sh; have F := sh.facts; (try simp only [Hp.Facts, Hp.CellsAt, Nat.reduceAdd, List.cons_append, List.nil_append] at F))
        | fail)
    go_fit (HI.out _ sh.data)
    rintro e w1 ⟨rfl, hb⟩
    replace sh := sh.call hb; clear hb; (try clear F); have F := sh.facts; (try simp only [Hp.Facts, Hp.CellsAt, Nat.reduceAdd, List.cons_append, List.nil_append] at F)
    go_wp2_with (first
        | ((with_reducible refine Hp.wpl_box sh ?_ ?_); exact rfl; clear sh; (try clear F); go_simp; intro b w1 sh; have F := sh.facts; (try simp only [Hp.Facts, Hp.CellsAt, Nat.reduceAdd, List.cons_append, List.nil_append] at F))
        | ((with_reducible refine Hp.wpl_alloc Try.z_line sh ?_ ?_); exact rfl; clear sh; (try clear F); go_simp; intro b w1 sh; have F := sh.facts; (try simp only [Hp.Facts, Hp.CellsAt, Nat.reduceAdd, List.cons_append, List.nil_append] at F))
        | ((with_reducible refine Hp.atl_store ?_ ?_); exact rfl; (first | refine Hp.wp_store 0 sh rfl rfl rfl rfl (by kernel_rfl) (Nat.le_of_ble_eq_true rfl) rfl ?_ | refine Hp.wp_store 1 sh rfl rfl rfl rfl (by kernel_rfl) (Nat.le_of_ble_eq_true rfl) rfl ?_ | refine Hp.wp_store 2 sh rfl rfl rfl rfl (by kernel_rfl) (Nat.le_of_ble_eq_true rfl) rfl ?_ | refine Hp.wp_store 3 sh rfl rfl rfl rfl (by kernel_rfl) (Nat.le_of_ble_eq_true rfl) rfl ?_ | refine Hp.wp_store 4 sh rfl rfl rfl rfl (by kernel_rfl) (Nat.le_of_ble_eq_true rfl) rfl ?_ | refine Hp.wp_store 5 sh rfl rfl rfl rfl (by kernel_rfl) (Nat.le_of_ble_eq_true rfl) rfl ?_ | refine Hp.wp_store 6 sh rfl rfl rfl rfl (by kernel_rfl) (Nat.le_of_ble_eq_true rfl) rfl ?_); clear sh; (try clear F); go_simp; intro w1 sh; have F := sh.facts; (try simp only [Hp.Facts, Hp.CellsAt, Nat.reduceAdd, List.cons_append, List.nil_append] at F))
        | fail)
    go_ret
    exact ⟨rfl, sh.below⟩

theorem QueP.rc_cases (size dep : Int) (zss : List (List Int)) : (QueP.isd size dep zss = false ∧ QueP.rcode size dep zss = 1) ∨ (QueP.isd size dep zss = true ∧ zss.length = 0 ∧ QueP.rcode size dep zss = 15) ∨ (QueP.isd size dep zss = true ∧ 0 < zss.length ∧ QueP.rcode size dep zss = 0) := by
  cases h : QueP.isd size dep zss with
  | false => exact .inl ⟨rfl, by simp [QueP.rcode, h]⟩
  | true =>
    by_cases h0 : zss.length = 0
    · exact .inr (.inl ⟨rfl, h0, by simp [QueP.rcode, h, h0]⟩)
    · exact .inr (.inr ⟨rfl, by omega, by simp only [QueP.rcode, h, h0]; rfl⟩)

theorem QueP.recv_shape {s : Option Addr} {hs : List QueP.Hd} {c n : Nat} (hl : (hs.map QueP.hdr).length = n * 1) (h1 : s = none → n = 0 ∧ c = 0) (h2 : n ≤ c) (h3 : c ≤ maxLen) (h4 : n ≤ 9223372036854775807) (h5 : ∀ h ∈ hs, QueP.Shape h) : QueP.QShape (s, hs, c) := by
  rw [List.length_map, Nat.mul_one] at hl
  exact ⟨fun h => by simp only [hl]; exact h1 h, by simp only [hl]; exact h2, h3, by simp only [hl]; exact h4, h5⟩

set_option maxHeartbeats 4000000 in
set_option maxRecDepth 100000 in
theorem qrecv (kd fr tg size dep : Int) (s : Option Addr) (hs : List QueP.Hd) (cap n : Nat) (w0 w : World) (H : List Hp.Blk) (D : World → Prop) (sh : Hp.Sh w0 w H D) (hsz : -9223372036854775808 ≤ size ∧ size ≤ 9223372036854775807) (hdp : -9223372036854775808 ≤ dep ∧ dep ≤ 9223372036854775807)
    (hn : n = hs.length) (hq : QueP.QShape (s, hs, cap)) (hqo : ∀ W, D W → QueP.QOk W (s, hs, cap)) :
    Calls Try.prog 6 #[.agg #[.int .i64 kd, .int .i64 fr, .int .i64 tg, .int .i64 size, .int .i64 dep], .agg #[.slice s n cap]] w
      (QueP.RecvP size dep (s, hs, cap) w0 H D) := by
  have hq4 : n ≤ 9223372036854775807 := by rw [hn]; exact hq.2.2.2.1
  have HI := Lib.hid (fun W h => qis kd fr tg size dep s hs n cap W hsz hdp hn hq4 hq.2.2.2.2 h)
  rw [QueP.is_qd] at HI
  have HQ := Lib.hid hq
  have HQO := Lib.hid hqo
  have HN := Lib.hid hn
  clear hq hqo hn
  rcases QueP.rc_cases size dep (hs.map (·.2.1)) with ⟨hi, hc⟩ | ⟨hi, hl, hc⟩ | ⟨hi, hl, hc⟩
  · rw [hi] at HI
    have HC := Lib.hid hc
    clear hc hi
    go_enter Try.func6, Try.ntmps6
    have tok_bc : True := trivial
    have tok_bq : True := trivial
    have tok_bl : True := trivial
    go_wp2_with (first
        | ((have tok := tok_bc); clear tok tok_bc; (first | (with_reducible refine Hp.wpl_box sh ?_ ?_) | (with_reducible refine Hp.wpl_alloc Try.z_line sh ?_ ?_)); exact rfl; clear sh; (try clear F); go_simp; intro bc w1 sh; have F := sh.facts; (try simp only [Hp.Facts, Hp.CellsAt, Nat.reduceAdd, List.cons_append, List.nil_append] at F))
        | ((have tok := tok_bq); clear tok tok_bq; (first | (with_reducible refine Hp.wpl_box sh ?_ ?_) | (with_reducible refine Hp.wpl_alloc Try.z_line sh ?_ ?_)); exact rfl; clear sh; (try clear F); go_simp; intro bq w1 sh; have F := sh.facts; (try simp only [Hp.Facts, Hp.CellsAt, Nat.reduceAdd, List.cons_append, List.nil_append] at F))
        | ((have tok := tok_bl); clear tok tok_bl; (first | (with_reducible refine Hp.wpl_box sh ?_ ?_) | (with_reducible refine Hp.wpl_alloc Try.z_line sh ?_ ?_)); exact rfl; clear sh; (try clear F); go_simp; intro bl w1 sh; have F := sh.facts; (try simp only [Hp.Facts, Hp.CellsAt, Nat.reduceAdd, List.cons_append, List.nil_append] at F))
        | ((with_reducible refine Hp.wpl_box sh ?_ ?_); exact rfl; clear sh; (try clear F); go_simp; intro b w1 sh; have F := sh.facts; (try simp only [Hp.Facts, Hp.CellsAt, Nat.reduceAdd, List.cons_append, List.nil_append] at F))
        | ((with_reducible refine Hp.wpl_alloc Try.z_line sh ?_ ?_); exact rfl; clear sh; (try clear F); go_simp; intro b w1 sh; have F := sh.facts; (try simp only [Hp.Facts, Hp.CellsAt, Nat.reduceAdd, List.cons_append, List.nil_append] at F))
        | ((with_reducible refine Hp.atl_store ?_ ?_); exact rfl; (first | refine Hp.wp_store 0 sh rfl rfl rfl rfl (by kernel_rfl) (Nat.le_of_ble_eq_true rfl) rfl ?_ | refine Hp.wp_store 1 sh rfl rfl rfl rfl (by kernel_rfl) (Nat.le_of_ble_eq_true rfl) rfl ?_ | refine Hp.wp_store 2 sh rfl rfl rfl rfl (by kernel_rfl) (Nat.le_of_ble_eq_true rfl) rfl ?_ | refine Hp.wp_store 3 sh rfl rfl rfl rfl (by kernel_rfl) (Nat.le_of_ble_eq_true rfl) rfl ?_ | refine Hp.wp_store 4 sh rfl rfl rfl rfl (by kernel_rfl) (Nat.le_of_ble_eq_true rfl) rfl ?_ | refine Hp.wp_store 5 sh rfl rfl rfl rfl (by kernel_rfl) (Nat.le_of_ble_eq_true rfl) rfl ?_ | refine Hp.wp_store 6 sh rfl rfl rfl rfl (by kernel_rfl) (Nat.le_of_ble_eq_true rfl) rfl ?_); clear sh; (try clear F); go_simp; intro w1 sh; have F := sh.facts; (try simp only [Hp.Facts, Hp.CellsAt, Nat.reduceAdd, List.cons_append, List.nil_append] at F))
        | fail)
    go_fit (HI.out _ (HQO.out _ sh.data).1)
    rintro e w1 ⟨rfl, hb⟩
    replace sh := sh.call hb; clear hb; (try clear F); have F := sh.facts; (try simp only [Hp.Facts, Hp.CellsAt, Nat.reduceAdd, List.cons_append, List.nil_append] at F)
    go_wp2_with (first
        | ((with_reducible refine Hp.wpl_box sh ?_ ?_); exact rfl; clear sh; (try clear F); go_simp; intro b w1 sh; have F := sh.facts; (try simp only [Hp.Facts, Hp.CellsAt, Nat.reduceAdd, List.cons_append, List.nil_append] at F))
        | ((with_reducible refine Hp.wpl_alloc Try.z_line sh ?_ ?_); exact rfl; clear sh; (try clear F); go_simp; intro b w1 sh; have F := sh.facts; (try simp only [Hp.Facts, Hp.CellsAt, Nat.reduceAdd, List.cons_append, List.nil_append] at F))
        | ((with_reducible refine Hp.atl_store ?_ ?_); exact rfl; (first | refine Hp.wp_store 0 sh rfl rfl rfl rfl (by kernel_rfl) (Nat.le_of_ble_eq_true rfl) rfl ?_ | refine Hp.wp_store 1 sh rfl rfl rfl rfl (by kernel_rfl) (Nat.le_of_ble_eq_true rfl) rfl ?_ | refine Hp.wp_store 2 sh rfl rfl rfl rfl (by kernel_rfl) (Nat.le_of_ble_eq_true rfl) rfl ?_ | refine Hp.wp_store 3 sh rfl rfl rfl rfl (by kernel_rfl) (Nat.le_of_ble_eq_true rfl) rfl ?_ | refine Hp.wp_store 4 sh rfl rfl rfl rfl (by kernel_rfl) (Nat.le_of_ble_eq_true rfl) rfl ?_ | refine Hp.wp_store 5 sh rfl rfl rfl rfl (by kernel_rfl) (Nat.le_of_ble_eq_true rfl) rfl ?_ | refine Hp.wp_store 6 sh rfl rfl rfl rfl (by kernel_rfl) (Nat.le_of_ble_eq_true rfl) rfl ?_); clear sh; (try clear F); go_simp; intro w1 sh; have F := sh.facts; (try simp only [Hp.Facts, Hp.CellsAt, Nat.reduceAdd, List.cons_append, List.nil_append] at F))
        | fail)
    refine bodyPost_ret (Hp.res_tct rfl rfl (sh.load 0 rfl (by kernel_rfl) (by kernel_rfl))) rfl ⟨none, [], 0, 0, none, [], 0, 0, 1, rfl, ⟨rfl, rfl, HC.out.symm, QueP.QShape0, ⟨fun _ => ⟨rfl, rfl⟩, by simp, by simp, by simp [maxLen]⟩, by simp⟩, sh.drop3.imp fun W h => ⟨⟨Hp.RdV.nil _ _, QueP.QOk0 W⟩, h⟩⟩
  · rw [hi] at HI
    obtain rfl : hs = [] := by simpa using hl
    have HC := Lib.hid hc
    obtain rfl : n = 0 := HN.out
    clear hc hi hl
    go_enter Try.func6, Try.ntmps6
    have tok_bc : True := trivial
    have tok_bq : True := trivial
    have tok_bl : True := trivial
    go_wp2_with (first
        | ((have tok := tok_bc); clear tok tok_bc; (first | (with_reducible refine Hp.wpl_box sh ?_ ?_) | (with_reducible refine Hp.wpl_alloc Try.z_line sh ?_ ?_)); exact rfl; clear sh; (try clear F); go_simp; intro bc w1 sh; have F := sh.facts; (try simp only [Hp.Facts, Hp.CellsAt, Nat.reduceAdd, List.cons_append, List.nil_append] at F))
        | ((have tok := tok_bq); clear tok tok_bq; (first | (with_reducible refine Hp.wpl_box sh ?_ ?_) | (with_reducible refine Hp.wpl_alloc Try.z_line sh ?_ ?_)); exact rfl; clear sh; (try clear F); go_simp; intro bq w1 sh; have F := sh.facts; (try simp only [Hp.Facts, Hp.CellsAt, Nat.reduceAdd, List.cons_append, List.nil_append] at F))
        | ((have tok := tok_bl); clear tok tok_bl; (first | (with_reducible refine Hp.wpl_box sh ?_ ?_) | (with_reducible refine Hp.wpl_alloc Try.z_line sh ?_ ?_)); exact rfl; clear sh; (try clear F); go_simp; intro bl w1 sh; have F := sh.facts; (try simp only [Hp.Facts, Hp.CellsAt, Nat.reduceAdd, List.cons_append, List.nil_append] at F))
        | ((with_reducible refine Hp.wpl_box sh ?_ ?_); exact rfl; clear sh; (try clear F); go_simp; intro b w1 sh; have F := sh.facts; (try simp only [Hp.Facts, Hp.CellsAt, Nat.reduceAdd, List.cons_append, List.nil_append] at F))
        | ((with_reducible refine Hp.wpl_alloc Try.z_line sh ?_ ?_); exact rfl; clear sh; (try clear F); go_simp; intro b w1 sh; have F := sh.facts; (try simp only [Hp.Facts, Hp.CellsAt, Nat.reduceAdd, List.cons_append, List.nil_append] at F))
        | ((with_reducible refine Hp.atl_store ?_ ?_); exact rfl; (first | refine Hp.wp_store 0 sh rfl rfl rfl rfl (by kernel_rfl) (Nat.le_of_ble_eq_true rfl) rfl ?_ | refine Hp.wp_store 1 sh rfl rfl rfl rfl (by kernel_rfl) (Nat.le_of_ble_eq_true rfl) rfl ?_ | refine Hp.wp_store 2 sh rfl rfl rfl rfl (by kernel_rfl) (Nat.le_of_ble_eq_true rfl) rfl ?_ | refine Hp.wp_store 3 sh rfl rfl rfl rfl (by kernel_rfl) (Nat.le_of_ble_eq_true rfl) rfl ?_ | refine Hp.wp_store 4 sh rfl rfl rfl rfl (by kernel_rfl) (Nat.le_of_ble_eq_true rfl) rfl ?_ | refine Hp.wp_store 5 sh rfl rfl rfl rfl (by kernel_rfl) (Nat.le_of_ble_eq_true rfl) rfl ?_ | refine Hp.wp_store 6 sh rfl rfl rfl rfl (by kernel_rfl) (Nat.le_of_ble_eq_true rfl) rfl ?_); clear sh; (try clear F); go_simp; intro w1 sh; have F := sh.facts; (try simp only [Hp.Facts, Hp.CellsAt, Nat.reduceAdd, List.cons_append, List.nil_append] at F))
        | fail)
    go_fit (HI.out _ (HQO.out _ sh.data).1)
    rintro e w1 ⟨rfl, hb⟩
    replace sh := sh.call hb; clear hb; (try clear F); have F := sh.facts; (try simp only [Hp.Facts, Hp.CellsAt, Nat.reduceAdd, List.cons_append, List.nil_append] at F)
    go_wp2_with (first
        | ((with_reducible refine Hp.wpl_box sh ?_ ?_); exact rfl; clear sh; (try clear F); go_simp; intro b w1 sh; have F := sh.facts; (try simp only [Hp.Facts, Hp.CellsAt, Nat.reduceAdd, List.cons_append, List.nil_append] at F))
        | ((with_reducible refine Hp.wpl_alloc Try.z_line sh ?_ ?_); exact rfl; clear sh; (try clear F); go_simp; intro b w1 sh; have F := sh.facts; (try simp only [Hp.Facts, Hp.CellsAt, Nat.reduceAdd, List.cons_append, List.nil_append] at F))
        | ((with_reducible refine Hp.atl_store ?_ ?_); exact rfl; (first | refine Hp.wp_store 0 sh rfl rfl rfl rfl (by kernel_rfl) (Nat.le_of_ble_eq_true rfl) rfl ?_ | refine Hp.wp_store 1 sh rfl rfl rfl rfl (by kernel_rfl) (Nat.le_of_ble_eq_true rfl) rfl ?_ | refine Hp.wp_store 2 sh rfl rfl rfl rfl (by kernel_rfl) (Nat.le_of_ble_eq_true rfl) rfl ?_ | refine Hp.wp_store 3 sh rfl rfl rfl rfl (by kernel_rfl) (Nat.le_of_ble_eq_true rfl) rfl ?_ | refine Hp.wp_store 4 sh rfl rfl rfl rfl (by kernel_rfl) (Nat.le_of_ble_eq_true rfl) rfl ?_ | refine Hp.wp_store 5 sh rfl rfl rfl rfl (by kernel_rfl) (Nat.le_of_ble_eq_true rfl) rfl ?_ | refine Hp.wp_store 6 sh rfl rfl rfl rfl (by kernel_rfl) (Nat.le_of_ble_eq_true rfl) rfl ?_); clear sh; (try clear F); go_simp; intro w1 sh; have F := sh.facts; (try simp only [Hp.Facts, Hp.CellsAt, Nat.reduceAdd, List.cons_append, List.nil_append] at F))
        | fail)
    refine bodyPost_ret (Hp.res_tct rfl rfl (sh.load 0 rfl (by kernel_rfl) (by kernel_rfl))) rfl ⟨none, [], 0, 0, none, [], 0, 0, 15, rfl, ⟨rfl, rfl, HC.out.symm, QueP.QShape0, ⟨fun _ => ⟨rfl, rfl⟩, by simp, by simp, by simp [maxLen]⟩, by simp⟩, sh.drop3.imp fun W h => ⟨⟨Hp.RdV.nil _ _, QueP.QOk0 W⟩, h⟩⟩
  · rw [hi] at HI
    have HC := Lib.hid hc
    obtain ⟨h, hr, rfl⟩ : ∃ h hr, hs = h :: hr := by
      cases hs with
      | nil => simp at hl
      | cons h hr => exact ⟨h, hr, rfl⟩
    have hsm := QueP.isd_small hi
    have hle : n ≤ 16 := by
      simp only [QueP.isd, QueP.is, Bool.and_eq_true, decide_eq_true_eq, List.length_map] at hi
      have := HN.out
      omega
    have hn1 : 1 ≤ n := by have := HN.out; simp at this; omega
    have h0n : 0 < n := by omega
    obtain ⟨hp, hz, hc'⟩ := h
    obtain ⟨p, rfl⟩ : ∃ p, s = some p := by
      cases s with
      | none => have := (HQ.out.1 rfl).1; simp at this
      | some p => exact ⟨p, rfl⟩
    have hS := HQ.out.2.2.2.2 (hp, hz, hc') (by simp)
    obtain ⟨hs1, hs2, hs0, hs4⟩ := hS
    have hs3 := hsm _ (List.mem_cons_self ..)
    simp only at hs1 hs2 hs3 hs4
    have HSH := Lib.hid (And.intro hs1 (And.intro hs2 (And.intro hs3 hs4)))
    have HSM := Lib.hid hsm
    clear hc hi hl hs1 hs2 hs4 hs0 hsm
    generalize hln : hz.length = ln at *
    have HLN := Lib.hid hln
    clear hln
    have CELL := Lib.hid (fun W (h : D W) => (show W.cell? p = some (.slice hp ln hc') from by have h1 := (HQO.out W h).1.cell 0 (v := QueP.hdr (hp, hz, hc')) rfl; rw [← HLN.out]; exact h1))
    have CH1 := Lib.hid (fun (w : World) (H : List Hp.Blk) (D : World → Prop) sh hv => qchW_any hp (ints hz) ln hc' 0 none [] 0 0 w0 w H D sh (by rw [ints_length]; exact HLN.out.symm) rfl (by omega) (by omega) (by omega) HSH.out.2.1 HSH.out.2.2.2 HSH.out.1 (fun _ => ⟨rfl, rfl⟩) hv (fun _ _ => Hp.RdV.nil _ _) ints_one (fun v h => by cases h))
    have CH2 := Lib.hid (fun (w : World) (H : List Hp.Blk) (D : World → Prop) sh hv => qchR_any (some p) (((hp, hz, hc') :: hr).map QueP.hdr) n cap 1 none [] 0 0 w0 w H D sh (by rw [List.length_map]; exact HN.out) rfl hn1 (by omega) (by omega) (by rw [HN.out]; exact HQ.out.2.1) HQ.out.2.2.1 (fun h => by rw [HN.out]; exact HQ.out.1 h) (fun _ => ⟨rfl, rfl⟩) hv (fun _ _ => Hp.RdV.nil _ _) QueP.hdr_one (fun v h => by cases h))
    simp only [Int.ofNat_zero, Int.natCast_zero, Nat.sub_zero, Nat.add_zero, List.drop_zero, List.append_nil, Int.cast_ofNat_Int, List.map_cons, List.drop_succ_cons] at CH1 CH2
    have LN := Lib.hid (fun (s' : Option Addr) (cap' : Nat) (R : List Hp.Blk) (w : World) (H : List Hp.Blk) (D : World → Prop) sh hr' hok => qline hr s' cap' (n - 1) R w0 w H D sh hr' hok (fun h hh => HQ.out.2.2.2.2 h (by simp [hh])) (fun h hh => HSM.out h (by simp [hh])) (by omega))
    go_enter Try.func6, Try.ntmps6
    have tok_bc : True := trivial
    have tok_bq : True := trivial
    have tok_bl : True := trivial
    go_wp2_with (first
        | ((have tok := tok_bc); clear tok tok_bc; (first | (with_reducible refine Hp.wpl_box sh ?_ ?_) | (with_reducible refine Hp.wpl_alloc Try.z_line sh ?_ ?_)); exact rfl; clear sh; (try clear F); go_simp; intro bc w1 sh; have F := sh.facts; (try simp only [Hp.Facts, Hp.CellsAt, Nat.reduceAdd, List.cons_append, List.nil_append] at F))
        | ((have tok := tok_bq); clear tok tok_bq; (first | (with_reducible refine Hp.wpl_box sh ?_ ?_) | (with_reducible refine Hp.wpl_alloc Try.z_line sh ?_ ?_)); exact rfl; clear sh; (try clear F); go_simp; intro bq w1 sh; have F := sh.facts; (try simp only [Hp.Facts, Hp.CellsAt, Nat.reduceAdd, List.cons_append, List.nil_append] at F))
        | ((have tok := tok_bl); clear tok tok_bl; (first | (with_reducible refine Hp.wpl_box sh ?_ ?_) | (with_reducible refine Hp.wpl_alloc Try.z_line sh ?_ ?_)); exact rfl; clear sh; (try clear F); go_simp; intro bl w1 sh; have F := sh.facts; (try simp only [Hp.Facts, Hp.CellsAt, Nat.reduceAdd, List.cons_append, List.nil_append] at F))
        | ((with_reducible refine Hp.wpl_box sh ?_ ?_); exact rfl; clear sh; (try clear F); go_simp; intro b w1 sh; have F := sh.facts; (try simp only [Hp.Facts, Hp.CellsAt, Nat.reduceAdd, List.cons_append, List.nil_append] at F))
        | ((with_reducible refine Hp.wpl_alloc Try.z_line sh ?_ ?_); exact rfl; clear sh; (try clear F); go_simp; intro b w1 sh; have F := sh.facts; (try simp only [Hp.Facts, Hp.CellsAt, Nat.reduceAdd, List.cons_append, List.nil_append] at F))
        | ((with_reducible refine Hp.atl_store ?_ ?_); exact rfl; (first | refine Hp.wp_store 0 sh rfl rfl rfl rfl (by kernel_rfl) (Nat.le_of_ble_eq_true rfl) rfl ?_ | refine Hp.wp_store 1 sh rfl rfl rfl rfl (by kernel_rfl) (Nat.le_of_ble_eq_true rfl) rfl ?_ | refine Hp.wp_store 2 sh rfl rfl rfl rfl (by kernel_rfl) (Nat.le_of_ble_eq_true rfl) rfl ?_ | refine Hp.wp_store 3 sh rfl rfl rfl rfl (by kernel_rfl) (Nat.le_of_ble_eq_true rfl) rfl ?_ | refine Hp.wp_store 4 sh rfl rfl rfl rfl (by kernel_rfl) (Nat.le_of_ble_eq_true rfl) rfl ?_ | refine Hp.wp_store 5 sh rfl rfl rfl rfl (by kernel_rfl) (Nat.le_of_ble_eq_true rfl) rfl ?_ | refine Hp.wp_store 6 sh rfl rfl rfl rfl (by kernel_rfl) (Nat.le_of_ble_eq_true rfl) rfl ?_); clear sh; (try clear F); go_simp; intro w1 sh; have F := sh.facts; (try simp only [Hp.Facts, Hp.CellsAt, Nat.reduceAdd, List.cons_append, List.nil_append] at F))
        | fail)
    go_fit (HI.out _ (HQO.out _ sh.data).1)
    rintro e w1 ⟨rfl, hb⟩
    replace sh := sh.call hb; clear hb; (try clear F); have F := sh.facts; (try simp only [Hp.Facts, Hp.CellsAt, Nat.reduceAdd, List.cons_append, List.nil_append] at F)
    have hcell := CELL.out _ sh.data
    go_wp2_with (first
        | ((with_reducible refine Hp.wpl_box sh ?_ ?_); exact rfl; clear sh; (try clear F); go_simp; intro b w1 sh; have F := sh.facts; (try simp only [Hp.Facts, Hp.CellsAt, Nat.reduceAdd, List.cons_append, List.nil_append] at F))
        | ((with_reducible refine Hp.wpl_alloc Try.z_line sh ?_ ?_); exact rfl; clear sh; (try clear F); go_simp; intro b w1 sh; have F := sh.facts; (try simp only [Hp.Facts, Hp.CellsAt, Nat.reduceAdd, List.cons_append, List.nil_append] at F))
        | ((with_reducible refine Hp.atl_store ?_ ?_); exact rfl; (first | refine Hp.wp_store 0 sh rfl rfl rfl rfl (by kernel_rfl) (Nat.le_of_ble_eq_true rfl) rfl ?_ | refine Hp.wp_store 1 sh rfl rfl rfl rfl (by kernel_rfl) (Nat.le_of_ble_eq_true rfl) rfl ?_ | refine Hp.wp_store 2 sh rfl rfl rfl rfl (by kernel_rfl) (Nat.le_of_ble_eq_true rfl) rfl ?_ | refine Hp.wp_store 3 sh rfl rfl rfl rfl (by kernel_rfl) (Nat.le_of_ble_eq_true rfl) rfl ?_ | refine Hp.wp_store 4 sh rfl rfl rfl rfl (by kernel_rfl) (Nat.le_of_ble_eq_true rfl) rfl ?_ | refine Hp.wp_store 5 sh rfl rfl rfl rfl (by kernel_rfl) (Nat.le_of_ble_eq_true rfl) rfl ?_ | refine Hp.wp_store 6 sh rfl rfl rfl rfl (by kernel_rfl) (Nat.le_of_ble_eq_true rfl) rfl ?_); clear sh; (try clear F); go_simp; intro w1 sh; have F := sh.facts; (try simp only [Hp.Facts, Hp.CellsAt, Nat.reduceAdd, List.cons_append, List.nil_append] at F))
        | fail)
    clear hcell
    refine Hp.region_sh1 (by kernel_rfl) sh ?_; clear sh F; intro w1 sh; have F := sh.facts; (try simp only [Hp.Facts, Hp.CellsAt, Nat.reduceAdd, List.cons_append, List.nil_append] at F)
    refine Hp.take (i := 0) (oi := ⟨some 17, Op.fieldAddr 27 (Operand.tmp 3) 0, _, _, _, none⟩) (v := ?_) rfl (by kernel_rfl) (by kernel_rfl) (by kernel_rfl) (fun _ _ _ h => h) (by rfl) ⟨sh.facts.2, sh.data⟩ ?_ ?_
    rotate_left
    · intro w' hh
      clear hh; go_simp
      try with_reducible rfl
    (try simp only [Act.put, List.setIfInBounds_toArray, List.set_cons_zero, List.set_cons_succ])
    refine Hp.take (i := 1) (oi := ⟨some 18, Op.load 25 (Operand.tmp 17), _, _, _, none⟩) (v := ?_) rfl (by kernel_rfl) (by kernel_rfl) (by kernel_rfl) (fun _ _ _ h => h) (by rfl) ⟨sh.facts.2, sh.data⟩ ?_ ?_
    rotate_left
    · intro w' hh
      have F' := hh.1; have hd := hh.2; clear hh; (try simp only [Hp.Facts, Hp.CellsAt, Nat.reduceAdd, List.cons_append, List.nil_append] at F'); have hcell := CELL.out w' hd
      go_simp
      try with_reducible rfl
    (try simp only [Act.put, List.setIfInBounds_toArray, List.set_cons_zero, List.set_cons_succ])
    refine Hp.take (i := 2) (oi := ⟨some 19, Op.indexAddr 25 (Operand.tmp 18) (Operand.const (Value.int IntKind.i64 0)), _, _, _, none⟩) (v := ?_) rfl (by kernel_rfl) (by kernel_rfl) (by kernel_rfl) (fun _ _ _ h => h) (by rfl) ⟨sh.facts.2, sh.data⟩ ?_ ?_
    rotate_left
    · intro w' hh
      clear hh; go_simp
      try with_reducible rfl
    (try simp only [Act.put, List.setIfInBounds_toArray, List.set_cons_zero, List.set_cons_succ])
    refine Hp.take (i := 3) (oi := ⟨some 20, Op.load 28 (Operand.tmp 19), _, _, _, none⟩) (v := ?_) rfl (by kernel_rfl) (by kernel_rfl) (by kernel_rfl) (fun _ _ _ h => h) (by rfl) ⟨sh.facts.2, sh.data⟩ ?_ ?_
    rotate_left
    · intro w' hh
      have F' := hh.1; have hd := hh.2; clear hh; (try simp only [Hp.Facts, Hp.CellsAt, Nat.reduceAdd, List.cons_append, List.nil_append] at F'); have hcell := CELL.out w' hd
      go_simp
      try with_reducible rfl
    (try simp only [Act.put, List.setIfInBounds_toArray, List.set_cons_zero, List.set_cons_succ])
    refine Hp.take (i := 5) (oi := ⟨some 22, Op.fieldAddr 27 (Operand.tmp 3) 0, _, _, _, none⟩) (v := ?_) rfl (by kernel_rfl) (by kernel_rfl) (by kernel_rfl) (fun _ _ _ h => h) (by rfl) ⟨sh.facts.2, sh.data⟩ ?_ ?_
    rotate_left
    · intro w' hh
      clear hh; go_simp
      try with_reducible rfl
    (try simp only [Act.put, List.setIfInBounds_toArray, List.set_cons_zero, List.set_cons_succ])
    refine Hp.take (i := 6) (oi := ⟨some 23, Op.load 25 (Operand.tmp 22), _, _, _, none⟩) (v := ?_) rfl (by kernel_rfl) (by kernel_rfl) (by kernel_rfl) (fun _ _ _ h => h) (by rfl) ⟨sh.facts.2, sh.data⟩ ?_ ?_
    rotate_left
    · intro w' hh
      have F' := hh.1; have hd := hh.2; clear hh; (try simp only [Hp.Facts, Hp.CellsAt, Nat.reduceAdd, List.cons_append, List.nil_append] at F'); have hcell := CELL.out w' hd
      go_simp
      try with_reducible rfl
    (try simp only [Act.put, List.setIfInBounds_toArray, List.set_cons_zero, List.set_cons_succ])
    refine Hp.branch [4] (by kernel_rfl) (by simp) ?_
    refine Hp.Each.cons ?_ ?_
    · refine Hp.op_step (o := ⟨some 21, Op.call { callee := Callee.value (Operand.func 16), args := #[Operand.tmp 20, Operand.const (Value.int IntKind.i64 0), Operand.const (Value.slice none 0 0)], argTypes := #[28, 3, 28] }, _, _, _, none⟩) rfl (by rfl) (fun K hK => ?_)
      go_simp
      go_fit (CH1.out _ _ _ sh (fun W h => (HQO.out W h).2 (hp, hz, hc') (by simp))); clear sh F; rintro e w1 ⟨v1, R1, rfl, sh, hr1⟩; obtain ⟨s1, c1, rfl, hn1', hl1, hm1⟩ := hr1.slice; replace sh := sh.freeze hr1; have HN1 := Lib.hid (And.intro hn1' (And.intro hl1 hm1)); clear hr1 hn1' hl1 hm1; have F := sh.facts; go_simp
      refine hK _ _ ⟨sh.facts.2, sh.data.2⟩ ?_; clear hK K; (try simp only [Act.put, List.setIfInBounds_toArray, List.set_cons_zero, List.set_cons_succ])
      refine Hp.branch [7] (by kernel_rfl) (by simp) ?_
      refine Hp.Each.cons ?_ ?_
      · refine Hp.op_step (o := ⟨some 24, Op.call { callee := Callee.value (Operand.func 15), args := #[Operand.tmp 23, Operand.const (Value.int IntKind.i64 1), Operand.const (Value.slice none 0 0)], argTypes := #[25, 3, 25] }, _, _, _, none⟩) rfl (by rfl) (fun K hK => ?_)
        go_simp
        go_fit (CH2.out _ _ _ sh (fun W h => (HQO.out W h.2).1)); clear sh F; rintro e w1 ⟨v2, R2, rfl, sh, hr2⟩; have HR2 := Lib.hid hr2; obtain ⟨s2, c2, rfl, -, -, -⟩ := hr2.slice; clear hr2; have F := sh.facts; go_simp
        refine hK _ _ ⟨sh.dropA.facts.2, sh.data.2⟩ ?_; clear hK K; (try simp only [Act.put, List.setIfInBounds_toArray, List.set_cons_zero, List.set_cons_succ])
        refine Hp.branch [8] (by kernel_rfl) (by simp) ?_
        refine Hp.Each.cons ?_ ?_
        · refine Hp.op_step (o := ⟨some 25, Op.call { callee := Callee.value (Operand.func 14), args := #[Operand.tmp 24], argTypes := #[25] }, _, _, _, none⟩) rfl (by rfl) (fun K hK => ?_)
          go_simp
          go_fit (LN.out _ _ _ _ _ _ sh HR2.out (fun W h h' hh => (HQO.out W h.2).2 h' (by simp [hh]))); clear sh F; rintro e w1 ⟨hs', R3, rfl, hmap, hsh', sh, hr3⟩; have HL3 := Lib.hid hr3.1; obtain ⟨s3, cap3, hs3', hnone, hle3, hmx⟩ := hr3.slice; simp only [Value.slice.injEq, true_and] at hs3'; obtain ⟨rfl, rfl⟩ := hs3'; replace sh := sh.freeze hr3; have HN3 := Lib.hid (And.intro hnone (And.intro hle3 hmx)); have HM3 := Lib.hid hmap; have HS3 := Lib.hid hsh'; clear hr3 hnone hle3 hmx hmap hsh'; have F := sh.facts; go_simp
          refine hK _ _ ⟨sh.facts.2, sh.data.2.2.2⟩ ?_; clear hK K; (try simp only [Act.put, List.setIfInBounds_toArray, List.set_cons_zero, List.set_cons_succ])
          refine Hp.take (i := 9) (oi := ⟨some 4, Op.assign (Operand.tmp 21), _, _, _, none⟩) (v := ?_) rfl (by kernel_rfl) (by kernel_rfl) (by kernel_rfl) (fun _ _ _ h => h) (by rfl) ⟨sh.facts.2, sh.data.2.2.2⟩ ?_ ?_
          rotate_left
          · intro w' hh
            clear hh; go_simp
            try with_reducible rfl
          (try simp only [Act.put, List.setIfInBounds_toArray, List.set_cons_zero, List.set_cons_succ])
          refine Hp.branch [10] (by kernel_rfl) (by simp) ?_
          refine Hp.Each.cons ?_ ?_
          · refine Hp.op_step (o := ⟨none, Op.store 27 (Operand.tmp 5) (Operand.tmp 25), _, _, _, none⟩) rfl (by rfl) (fun K hK => ?_)
            (first | refine Hp.wp_store 0 sh rfl rfl rfl rfl (by kernel_rfl) (Nat.le_of_ble_eq_true rfl) rfl ?_ | refine Hp.wp_store 1 sh rfl rfl rfl rfl (by kernel_rfl) (Nat.le_of_ble_eq_true rfl) rfl ?_ | refine Hp.wp_store 2 sh rfl rfl rfl rfl (by kernel_rfl) (Nat.le_of_ble_eq_true rfl) rfl ?_ | refine Hp.wp_store 3 sh rfl rfl rfl rfl (by kernel_rfl) (Nat.le_of_ble_eq_true rfl) rfl ?_ | refine Hp.wp_store 4 sh rfl rfl rfl rfl (by kernel_rfl) (Nat.le_of_ble_eq_true rfl) rfl ?_ | refine Hp.wp_store 5 sh rfl rfl rfl rfl (by kernel_rfl) (Nat.le_of_ble_eq_true rfl) rfl ?_ | refine Hp.wp_store 6 sh rfl rfl rfl rfl (by kernel_rfl) (Nat.le_of_ble_eq_true rfl) rfl ?_); clear sh F; go_simp; intro w1 sh; have F := sh.facts; (try simp only [Hp.Facts, Hp.CellsAt, Nat.reduceAdd, List.cons_append, List.nil_append] at F)
            refine hK _ _ ⟨sh.facts.2, sh.data.2.2.2⟩ ?_; clear hK K; (try simp only [Act.put, List.setIfInBounds_toArray, List.set_cons_zero, List.set_cons_succ])
            refine Hp.take (i := 11) (oi := ⟨some 6, Op.assign (Operand.const (Value.int IntKind.i64 0)), _, _, _, none⟩) (v := ?_) rfl (by kernel_rfl) (by kernel_rfl) (by kernel_rfl) (fun _ _ _ h => h) (by rfl) ⟨sh.facts.2, sh.data.2.2.2⟩ ?_ ?_
            rotate_left
            · intro w' hh
              clear hh; go_simp
              try with_reducible rfl
            (try simp only [Act.put, List.setIfInBounds_toArray, List.set_cons_zero, List.set_cons_succ])
            refine wpAnyH_done (by kernel_rfl) ?_ _
            go_wp2; refine bodyPost_ret (Hp.res_tct rfl rfl (sh.load 0 rfl (by kernel_rfl) (by kernel_rfl))) rfl ⟨s1, hz, c1, ln, s2, hs', c2, n - 1, 0, rfl, ⟨by have := HL3.out; simpa using this.symm, HLN.out.symm, HC.out.symm, QueP.recv_shape HL3.out HN3.out.1 HN3.out.2.1 HN3.out.2.2 (by omega) HS3.out, ⟨fun h => by rw [HLN.out]; exact HN1.out.1 h, by rw [HLN.out]; exact HN1.out.2.1, by rw [HLN.out]; omega, HN1.out.2.2⟩, fun _ => by simp only [QueP.qd, HM3.out, List.map_cons]⟩, sh.drop3.imp fun W h => ⟨⟨h.2.2.1, h.1, h.2.1⟩, h.2.2.2⟩⟩
          exact Hp.Each.nil
        exact Hp.Each.nil
      exact Hp.Each.nil
    exact Hp.Each.nil

end Go.Proofs.Ytddfonekfopchaa
