/-
  The walk of SamplingLast.
-/
import Derived.Test.YtkcpmghlndnfbaaSampOwn
import Derived.Test.YtkcpmghlndnfbaaMem
import Derived.Deep.CutRange
import Derived.Deep.DeepFit
import Derived.Laws.ResultCell
namespace Go.Proofs.Ytkcpmghlndnfbaa
open Go.RowKit
set_option linter.unusedVariables false
set_option linter.unusedSimpArgs false

theorem Try.z_sample (W : World) : (zeroValue 27).run Try.prog W = .ok (.agg #[.bool false, .int .i64 0, .slice none 0 0]) W := by kernel_rfl

/-- A row of writes: when (At), and which words (L). -/
def SampP.RowAt (W : World) (rs : Option Addr) (N : Nat) (At : Nat → Int) (L : Nat → Option Addr × List Int × Nat) : Prop :=
  0 < N → ∃ p, rs = some p ∧ ∀ i, i < N → W.cell? (p.add (i * 2)) = some (.int .i64 (At i)) ∧ W.cell? ⟨(p.add (i * 2)).block, (p.add (i * 2)).off + 1, none⟩ = some (.slice (L i).1 (L i).2.1.length (L i).2.2) ∧ Rd W .u32 (L i).1 (L i).2.1

theorem SampP.RowAt.below {W W' : World} {rs : Option Addr} {N : Nat} {At : Nat → Int} {L : Nat → Option Addr × List Int × Nat} (h : SampP.RowAt W rs N At L) (ho : Mem.Off (fun _ => False) W W') : SampP.RowAt W' rs N At L := by
  intro hN
  obtain ⟨p, hp, hc⟩ := h hN
  have key : ∀ (a : Addr) v, W.cell? a = some v → W'.cell? a = some v := fun a v hv => by
    have hl := World.block_lt_of_cell? W _ hv
    unfold World.cell? at hv ⊢
    rw [ho.2 _ hl (fun h => h.elim)]; exact hv
  refine ⟨p, hp, fun i hi => ?_⟩
  obtain ⟨h1, h2, h3⟩ := hc i hi
  refine ⟨key _ _ h1, key _ _ h2, fun hp => ?_⟩
  obtain ⟨q, hq, hc⟩ := h3 hp
  exact ⟨q, hq, fun i z hz => key _ _ (hc i z hz)⟩

theorem Rd.rob {S : Nat → Prop} {W : World} {k : IntKind} {g : Nat} {zs : List Int} (h : Rd W k (some ⟨g, 0, none⟩) zs) (hg : ¬ S g) : Mem.Rob S W (fun W => Rd W k (some ⟨g, 0, none⟩) zs) := by
  intro W' ho hp
  obtain ⟨p, hs, hc⟩ := h hp
  refine ⟨p, hs, fun i z hz => ?_⟩
  obtain rfl : (⟨g, 0, none⟩ : Addr) = p := by simpa using hs
  have h1 := hc i z hz
  have e : ((⟨g, 0, none⟩ : Addr).add i).block = g := by unfold Addr.add; split <;> rfl
  have hl := World.block_lt_of_cell? W _ h1
  unfold World.cell? at h1 ⊢
  rw [e] at h1 hl ⊢
  rw [ho.2 g hl hg]; exact h1

/-- What is kept of the writes so far: nothing yet, or what the write j has written. -/
def SampP.Kept (size : Int) (At : Nat → Int) (L : Nat → Option Addr × List Int × Nat) (k : Nat) (last : Int) (f : Bool) (tm : Int) (n : Nat) (zs : List Int) : Prop :=
  n = zs.length ∧ ((last = -1 ∧ f = false ∧ tm = 0 ∧ zs = []) ∨
  (∃ j : Nat, j < k ∧ last = (j : Int) ∧ f = true ∧ tm = At j ∧ zs = (L j).2.1 ∧ n ≤ 100 ∧ SampP.tick tm = true ∧ SampP.fit size n = true ∧ 1 ≤ size ∧ size ≤ 8))
def SampP.Dat (rs : Option Addr) (N : Nat) (At : Nat → Int) (L : Nat → Option Addr × List Int × Nat) (s : Option Addr) (zs : List Int) (W : World) : Prop := SampP.RowAt W rs N At L ∧ Rd W .u32 s zs

theorem SampP.Dat.cells {rs : Option Addr} {N : Nat} {At : Nat → Int} {L : Nat → Option Addr × List Int × Nat} {s : Option Addr} {zs : List Int} {W : World} (h : SampP.Dat rs N At L s zs W) {p : Addr} (hp : rs = some p) {k : Nat} (hk : k < N) :
    W.cell? (p.add (k * 2)) = some (.int .i64 (At k)) ∧ W.cell? ⟨(p.add (k * 2)).block, (p.add (k * 2)).off + 1, none⟩ = some (.slice (L k).1 (L k).2.1.length (L k).2.2) ∧ Rd W .u32 (L k).1 (L k).2.1 := by
  obtain ⟨q, hq, hc⟩ := h.1 (by omega)
  obtain rfl : p = q := by rw [hp] at hq; simpa using hq
  exact hc k hk

theorem sampWrite_rob (S : Nat → Prop) (kd fr tg size dep : Int) (f : Bool) (tm : Int) (s : Option Addr) (n cap : Nat) (tk : Int) (r : Option Addr) (zs : List Int) (m cap2 : Nat) (w : World) (hs : -9223372036854775808 ≤ size ∧ size ≤ 9223372036854775807) (hn : n ≤ 1099511627776)
    (hm : m ≤ 1099511627776) (hz : m = zs.length) (hr : Rd w .u32 r zs) (hS : ∀ b, S b → b < w.heap.size)
    (htm : -9223372036854775808 ≤ tm ∧ tm ≤ 9223372036854775807) (htk : -9223372036854775808 ≤ tk ∧ tk ≤ 9223372036854775807) :
    Calls Try.prog 5 #[.agg #[.int .i64 kd, .int .i64 fr, .int .i64 tg, .int .i64 size, .int .i64 dep], .agg #[.bool f, .int .i64 tm, .slice s n cap], .int .i64 tk, .slice r m cap2] w
      fun e w' => ∃ f' tm' s' n' cap' c zs', e = .returned (.tuple #[.agg #[.bool f', .int .i64 tm', .slice s' n' cap'], .int .i64 c]) ∧ Hid (c = SampP.wcode size f tm n tk m ∧ (c = 0 → f' = true ∧ tm' = tk ∧ n' = m ∧ zs' = zs)) ∧ Mem.Rob S w' (fun W => Rd W .u32 s' zs') ∧ Below w.heap.size w w' := by
  refine (sampWrite_any kd fr tg size dep f tm s n cap tk r zs m cap2 w hs hn hm hz hr htm htk).mono ?_
  rintro e w' ⟨⟨h, he⟩ | ⟨h0, g, he, hg, hr'⟩, hb⟩
  · exact ⟨_, _, _, _, _, _, [], he, ⟨rfl, fun h' => absurd h' h⟩, fun _ _ => Rd.nil _ _ _, hb⟩
  · exact ⟨_, _, _, _, _, _, zs, he, ⟨h0.symm, fun _ => ⟨rfl, rfl, rfl, rfl⟩⟩, hr'.rob (fun h => by have := hS g h; omega), hb⟩

theorem sampRead_rob (S : Nat → Prop) (kd fr tg size dep : Int) (f : Bool) (tm : Int) (s : Option Addr) (zs : List Int) (n cap : Nat) (tk : Int) (w : World) (hs : -9223372036854775808 ≤ size ∧ size ≤ 9223372036854775807) (hn : n ≤ 1099511627776) (hz : n = zs.length) (hr : Rd w .u32 s zs) (hS : ∀ b, S b → b < w.heap.size)
    (htm : -9223372036854775808 ≤ tm ∧ tm ≤ 9223372036854775807) (htk : -9223372036854775808 ≤ tk ∧ tk ≤ 9223372036854775807) (h0 : SampP.rcode size f tm n tk = 0) :
    Calls Try.prog 7 #[.agg #[.int .i64 kd, .int .i64 fr, .int .i64 tg, .int .i64 size, .int .i64 dep], .agg #[.bool f, .int .i64 tm, .slice s n cap], .int .i64 tk] w
      fun e w' => ∃ g, e = .returned (.tuple #[.slice (some ⟨g, 0, none⟩) n n, .int .i64 (tk - tm), .int .i64 0]) ∧ Mem.Rob S w' (fun W => Rd W .u32 (some ⟨g, 0, none⟩) zs) ∧ Below w.heap.size w w' := by
  refine (sampRead_ok kd fr tg size dep f tm s zs n cap tk w hs hn hz hr htm htk h0).mono ?_
  rintro e w' ⟨g, he, hg, hr', hb⟩
  exact ⟨g, he, hr'.rob (fun h => by have := hS g h; omega), hb⟩

set_option maxHeartbeats 8000000 in
set_option maxRecDepth 100000 in
theorem samplingLast_walk (kd fr tg size dep : Int) (rs : Option Addr) (N rcap : Nat) (At : Nat → Int) (L : Nat → Option Addr × List Int × Nat) (tk : Int) (w : World) (hs : -9223372036854775808 ≤ size ∧ size ≤ 9223372036854775807)
    (hrow : SampP.RowAt w rs N At L) (hat : ∀ i, -9223372036854775808 ≤ At i ∧ At i ≤ 9223372036854775807) (htk : -9223372036854775808 ≤ tk ∧ tk ≤ 9223372036854775807) :
    Calls Try.prog 3 #[.agg #[.int .i64 kd, .int .i64 fr, .int .i64 tg, .int .i64 size, .int .i64 dep], .slice rs N rcap, .int .i64 tk] w
      fun e w' => e = .returned (.bool true) ∧ Below w.heap.size w w' := by
  by_cases h1 : 60 < N
  · go_enter Try.func3, Try.ntmps3
    go_wp2
    go_ret
    exact ⟨rfl, below_a1 w _⟩
  have HROW := Lib.hid hrow
  have HAT := Lib.hid hat
  have sh : Mem.Sh (fun _ => False) w w [] (SampP.Dat rs N At L none []) := Mem.Sh.start (fun _ h => h.elim) (fun w' ho => ⟨hrow.below ho, Rd.nil _ _ _⟩)
  clear hrow hat
  go_enter Try.func3, Try.ntmps3
  have tok_bc : True := trivial
  have tok_b : True := trivial
  go_wp2_with (first
      | ((have tok := tok_bc); clear tok tok_bc; (first | (with_reducible refine Mem.wpl_box sh ?_ ?_) | (with_reducible refine Mem.wpl_alloc Try.z_sample sh ?_ ?_)); exact rfl; clear sh; (try clear F); go_simp; intro bc w1 sh; have F := sh.facts; simp only [Mem.Facts, Mem.CellsAt, Nat.reduceAdd] at F)
      | ((have tok := tok_b); clear tok tok_b; (first | (with_reducible refine Mem.wpl_box sh ?_ ?_) | (with_reducible refine Mem.wpl_alloc Try.z_sample sh ?_ ?_)); exact rfl; clear sh; (try clear F); go_simp; intro b w1 sh; have F := sh.facts; simp only [Mem.Facts, Mem.CellsAt, Nat.reduceAdd] at F)
      | ((with_reducible refine Mem.wpl_box sh ?_ ?_); exact rfl; clear sh; (try clear F); go_simp; intro b w1 sh; have F := sh.facts; simp only [Mem.Facts, Mem.CellsAt, Nat.reduceAdd] at F)
      | ((with_reducible refine Mem.wpl_alloc Try.z_sample sh ?_ ?_); exact rfl; clear sh; (try clear F); go_simp; intro b w1 sh; have F := sh.facts; simp only [Mem.Facts, Mem.CellsAt, Nat.reduceAdd] at F)
      | ((with_reducible refine Mem.atl_store ?_ ?_); exact rfl; (first | refine Mem.wp_store 0 sh rfl rfl rfl rfl (by kernel_rfl) (Nat.le_of_ble_eq_true rfl) rfl ?_ | refine Mem.wp_store 1 sh rfl rfl rfl rfl (by kernel_rfl) (Nat.le_of_ble_eq_true rfl) rfl ?_ | refine Mem.wp_store 2 sh rfl rfl rfl rfl (by kernel_rfl) (Nat.le_of_ble_eq_true rfl) rfl ?_ | refine Mem.wp_store 3 sh rfl rfl rfl rfl (by kernel_rfl) (Nat.le_of_ble_eq_true rfl) rfl ?_ | refine Mem.wp_store 4 sh rfl rfl rfl rfl (by kernel_rfl) (Nat.le_of_ble_eq_true rfl) rfl ?_ | refine Mem.wp_store 5 sh rfl rfl rfl rfl (by kernel_rfl) (Nat.le_of_ble_eq_true rfl) rfl ?_ | refine Mem.wp_store 6 sh rfl rfl rfl rfl (by kernel_rfl) (Nat.le_of_ble_eq_true rfl) rfl ?_); clear sh; (try clear F); go_simp; intro w1 sh; have F := sh.facts; simp only [Mem.Facts, Mem.CellsAt, Nat.reduceAdd] at F)
      | fail)
  go_loopw [8, 9] (fun last i wr => ∃ (k : Nat) (l : Int) (f : Bool) (tm : Int) (s : Option Addr) (n cap : Nat) (zs : List Int), last = .int .i64 l ∧ i = .int .i64 k ∧ k ≤ N ∧
      Mem.Sh (fun _ => False) w wr [(b, #[.bool f, .int .i64 tm, .slice s n cap], 27), (bc, #[.int .i64 kd, .int .i64 fr, .int .i64 tg, .int .i64 size, .int .i64 dep], 23)] (SampP.Dat rs N At L s zs) ∧ Hid (SampP.Kept size At L k l f tm n zs)) (fun _ i _ => N - (intOf i).toNat)
  case atStart => exact ⟨0, -1, false, 0, none, 0, 0, [], rfl, rfl, by omega, sh, rfl, .inl ⟨rfl, rfl, rfl, rfl⟩⟩
  case round =>
    clear sh F
    obtain ⟨k, l, f, tm, s, n, cap, zs, rfl, rfl, hk, sh, KP⟩ := hrel
    have F := sh.facts; simp only [Mem.Facts, Mem.CellsAt, Nat.reduceAdd] at F
    have hnb : n ≤ 1099511627776 := by
      rcases KP.out with ⟨e, ⟨_, _, _, h⟩ | ⟨j, _, _, _, _, _, h, _⟩⟩
      · rw [e, h]; simp
      · omega
    have htm : -9223372036854775808 ≤ tm ∧ tm ≤ 9223372036854775807 := by
      rcases KP.out with ⟨_, ⟨_, _, h, _⟩ | ⟨j, _, _, _, _, _, _, h, _⟩⟩
      · omega
      · simp [SampP.tick] at h; omega
    by_cases hlt : k < N
    · obtain ⟨p, HP, hrow⟩ := sh.data.1 (by omega)
      subst HP
      have HRW := Lib.hid (fun W (h : SampP.Dat (some p) N At L s zs W) => h.cells rfl hlt)
      clear hrow
      have hat' := HAT.out k
      generalize hA : At k = at' at HRW hat'
      generalize hL : L k = l' at HRW
      obtain ⟨ls, lz, lcap⟩ := l'
      simp only at HRW
      generalize hln : lz.length = ln at HRW
      have HLN := Lib.hid hln
      have HA := Lib.hid hA
      have HL := Lib.hid hL
      clear hln hA hL
      obtain ⟨hr1, hr2, hr3⟩ := HRW.out _ sh.data
      have HR3 := Lib.hid hr3
      clear hr3
      by_cases hbig : 100 < ln
      · go_wp2_with (first
            | ((with_reducible refine Mem.wpl_box sh ?_ ?_); exact rfl; clear sh; (try clear F); go_simp; intro b w1 sh; have F := sh.facts; simp only [Mem.Facts, Mem.CellsAt, Nat.reduceAdd] at F)
            | ((with_reducible refine Mem.wpl_alloc Try.z_sample sh ?_ ?_); exact rfl; clear sh; (try clear F); go_simp; intro b w1 sh; have F := sh.facts; simp only [Mem.Facts, Mem.CellsAt, Nat.reduceAdd] at F)
            | ((with_reducible refine Mem.atl_store ?_ ?_); exact rfl; (first | refine Mem.wp_store 0 sh rfl rfl rfl rfl (by kernel_rfl) (Nat.le_of_ble_eq_true rfl) rfl ?_ | refine Mem.wp_store 1 sh rfl rfl rfl rfl (by kernel_rfl) (Nat.le_of_ble_eq_true rfl) rfl ?_ | refine Mem.wp_store 2 sh rfl rfl rfl rfl (by kernel_rfl) (Nat.le_of_ble_eq_true rfl) rfl ?_ | refine Mem.wp_store 3 sh rfl rfl rfl rfl (by kernel_rfl) (Nat.le_of_ble_eq_true rfl) rfl ?_ | refine Mem.wp_store 4 sh rfl rfl rfl rfl (by kernel_rfl) (Nat.le_of_ble_eq_true rfl) rfl ?_ | refine Mem.wp_store 5 sh rfl rfl rfl rfl (by kernel_rfl) (Nat.le_of_ble_eq_true rfl) rfl ?_ | refine Mem.wp_store 6 sh rfl rfl rfl rfl (by kernel_rfl) (Nat.le_of_ble_eq_true rfl) rfl ?_); clear sh; (try clear F); go_simp; intro w1 sh; have F := sh.facts; simp only [Mem.Facts, Mem.CellsAt, Nat.reduceAdd] at F)
            | fail)
        go_ret
        exact ⟨rfl, sh.below⟩
      · have WB := Lib.hid (fun S W h hd => sampWrite_rob S kd fr tg size dep f tm s n cap at' ls lz ln lcap W hs hnb (by omega) HLN.out.symm hd h htm hat')
        go_wp2_with (first
            | ((with_reducible refine Mem.wpl_box sh ?_ ?_); exact rfl; clear sh; (try clear F); go_simp; intro b w1 sh; have F := sh.facts; simp only [Mem.Facts, Mem.CellsAt, Nat.reduceAdd] at F)
            | ((with_reducible refine Mem.wpl_alloc Try.z_sample sh ?_ ?_); exact rfl; clear sh; (try clear F); go_simp; intro b w1 sh; have F := sh.facts; simp only [Mem.Facts, Mem.CellsAt, Nat.reduceAdd] at F)
            | ((with_reducible refine Mem.atl_store ?_ ?_); exact rfl; (first | refine Mem.wp_store 0 sh rfl rfl rfl rfl (by kernel_rfl) (Nat.le_of_ble_eq_true rfl) rfl ?_ | refine Mem.wp_store 1 sh rfl rfl rfl rfl (by kernel_rfl) (Nat.le_of_ble_eq_true rfl) rfl ?_ | refine Mem.wp_store 2 sh rfl rfl rfl rfl (by kernel_rfl) (Nat.le_of_ble_eq_true rfl) rfl ?_ | refine Mem.wp_store 3 sh rfl rfl rfl rfl (by kernel_rfl) (Nat.le_of_ble_eq_true rfl) rfl ?_ | refine Mem.wp_store 4 sh rfl rfl rfl rfl (by kernel_rfl) (Nat.le_of_ble_eq_true rfl) rfl ?_ | refine Mem.wp_store 5 sh rfl rfl rfl rfl (by kernel_rfl) (Nat.le_of_ble_eq_true rfl) rfl ?_ | refine Mem.wp_store 6 sh rfl rfl rfl rfl (by kernel_rfl) (Nat.le_of_ble_eq_true rfl) rfl ?_); clear sh; (try clear F); go_simp; intro w1 sh; have F := sh.facts; simp only [Mem.Facts, Mem.CellsAt, Nat.reduceAdd] at F)
            | fail)
        clear hr1 hr2
        go_cut [10, 11] from 21 to 57 (fun t e wx => ∃ (b10 : Nat) (c1 : Int) (f' : Bool) (tm' : Int) (s' : Option Addr) (n' cap' : Nat) (zs' : List Int), t = .pointer (some ⟨b10, 0, none⟩) ∧ e = .int .i64 c1 ∧
          Mem.Sh (fun _ => False) w wx [(b10, #[.bool f', .int .i64 tm', .slice s' n' cap'], 27), (b, #[.bool f, .int .i64 tm, .slice s n cap], 27), (bc, #[.int .i64 kd, .int .i64 fr, .int .i64 tg, .int .i64 size, .int .i64 dep], 23)] (fun W => Rd W .u32 s' zs' ∧ SampP.Dat (some p) N At L s zs W) ∧
          Hid (c1 = SampP.wcode size f tm n at' ln ∧ (c1 = 0 → f' = true ∧ tm' = at' ∧ n' = ln ∧ zs' = lz)))
        case first =>
          refine Mem.region_sh (by kernel_rfl) sh ?_; clear sh F; intro w1 sh; have F := sh.facts; simp only [Mem.Facts, Mem.CellsAt, Nat.reduceAdd] at F
          refine Mem.take (i := 0) (oi := ⟨some 35, Op.load 23 (Operand.tmp 3), _, _, _, none⟩) (v := ?_) rfl (by kernel_rfl) (by kernel_rfl) (by kernel_rfl) (fun _ _ _ h => h) (by rfl) sh.held ?_ ?_
          rotate_left
          · intro w' hh
            have F' := hh.1; have hd := hh.2; clear hh; simp only [Mem.Facts, Mem.CellsAt, Nat.reduceAdd] at F'; have hd1 := (HRW.out w' hd).1; have hd2 := (HRW.out w' hd).2.1
            go_simp
            try with_reducible rfl
          (try simp only [Act.put, List.setIfInBounds_toArray, List.set_cons_zero, List.set_cons_succ])
          refine Mem.take (i := 1) (oi := ⟨some 36, Op.load 27 (Operand.tmp 7), _, _, _, none⟩) (v := ?_) rfl (by kernel_rfl) (by kernel_rfl) (by kernel_rfl) (fun _ _ _ h => h) (by rfl) sh.held ?_ ?_
          rotate_left
          · intro w' hh
            have F' := hh.1; have hd := hh.2; clear hh; simp only [Mem.Facts, Mem.CellsAt, Nat.reduceAdd] at F'; have hd1 := (HRW.out w' hd).1; have hd2 := (HRW.out w' hd).2.1
            go_simp
            try with_reducible rfl
          (try simp only [Act.put, List.setIfInBounds_toArray, List.set_cons_zero, List.set_cons_succ])
          refine Mem.take (i := 2) (oi := ⟨some 37, Op.move (Operand.tmp 1), _, _, _, none⟩) (v := ?_) rfl (by kernel_rfl) (by kernel_rfl) (by kernel_rfl) (fun _ _ _ h => h) (by rfl) sh.held ?_ ?_
          rotate_left
          · intro w' hh
            clear hh; go_simp
            try with_reducible rfl
          (try simp only [Act.put, List.setIfInBounds_toArray, List.set_cons_zero, List.set_cons_succ])
          refine Mem.take (i := 3) (oi := ⟨some 38, Op.move (Operand.tmp 9), _, _, _, none⟩) (v := ?_) rfl (by kernel_rfl) (by kernel_rfl) (by kernel_rfl) (fun _ _ _ h => h) (by rfl) sh.held ?_ ?_
          rotate_left
          · intro w' hh
            clear hh; go_simp
            try with_reducible rfl
          (try simp only [Act.put, List.setIfInBounds_toArray, List.set_cons_zero, List.set_cons_succ])
          refine Mem.take (i := 4) (oi := ⟨some 39, Op.indexAddr 24 (Operand.tmp 37) (Operand.tmp 38), _, _, _, none⟩) (v := ?_) rfl (by kernel_rfl) (by kernel_rfl) (by kernel_rfl) (fun _ _ _ h => h) (by rfl) sh.held ?_ ?_
          rotate_left
          · intro w' hh
            clear hh; go_simp
            try with_reducible rfl
          (try simp only [Act.put, List.setIfInBounds_toArray, List.set_cons_zero, List.set_cons_succ])
          refine Mem.take (i := 5) (oi := ⟨some 40, Op.fieldAddr 29 (Operand.tmp 39) 0, _, _, _, none⟩) (v := ?_) rfl (by kernel_rfl) (by kernel_rfl) (by kernel_rfl) (fun _ _ _ h => h) (by rfl) sh.held ?_ ?_
          rotate_left
          · intro w' hh
            clear hh; go_simp
            try with_reducible rfl
          (try simp only [Act.put, List.setIfInBounds_toArray, List.set_cons_zero, List.set_cons_succ])
          refine Mem.take (i := 6) (oi := ⟨some 41, Op.load 3 (Operand.tmp 40), _, _, _, none⟩) (v := ?_) rfl (by kernel_rfl) (by kernel_rfl) (by kernel_rfl) (fun _ _ _ h => h) (by rfl) sh.held ?_ ?_
          rotate_left
          · intro w' hh
            have F' := hh.1; have hd := hh.2; clear hh; simp only [Mem.Facts, Mem.CellsAt, Nat.reduceAdd] at F'; have hd1 := (HRW.out w' hd).1; have hd2 := (HRW.out w' hd).2.1
            go_simp
            try with_reducible rfl
          (try simp only [Act.put, List.setIfInBounds_toArray, List.set_cons_zero, List.set_cons_succ])
          refine Mem.take (i := 7) (oi := ⟨some 42, Op.move (Operand.tmp 1), _, _, _, none⟩) (v := ?_) rfl (by kernel_rfl) (by kernel_rfl) (by kernel_rfl) (fun _ _ _ h => h) (by rfl) sh.held ?_ ?_
          rotate_left
          · intro w' hh
            clear hh; go_simp
            try with_reducible rfl
          (try simp only [Act.put, List.setIfInBounds_toArray, List.set_cons_zero, List.set_cons_succ])
          refine Mem.take (i := 8) (oi := ⟨some 43, Op.move (Operand.tmp 9), _, _, _, none⟩) (v := ?_) rfl (by kernel_rfl) (by kernel_rfl) (by kernel_rfl) (fun _ _ _ h => h) (by rfl) sh.held ?_ ?_
          rotate_left
          · intro w' hh
            clear hh; go_simp
            try with_reducible rfl
          (try simp only [Act.put, List.setIfInBounds_toArray, List.set_cons_zero, List.set_cons_succ])
          refine Mem.take (i := 9) (oi := ⟨some 44, Op.indexAddr 24 (Operand.tmp 42) (Operand.tmp 43), _, _, _, none⟩) (v := ?_) rfl (by kernel_rfl) (by kernel_rfl) (by kernel_rfl) (fun _ _ _ h => h) (by rfl) sh.held ?_ ?_
          rotate_left
          · intro w' hh
            clear hh; go_simp
            try with_reducible rfl
          (try simp only [Act.put, List.setIfInBounds_toArray, List.set_cons_zero, List.set_cons_succ])
          refine Mem.take (i := 10) (oi := ⟨some 45, Op.fieldAddr 29 (Operand.tmp 44) 1, _, _, _, none⟩) (v := ?_) rfl (by kernel_rfl) (by kernel_rfl) (by kernel_rfl) (fun _ _ _ h => h) (by rfl) sh.held ?_ ?_
          rotate_left
          · intro w' hh
            clear hh; go_simp
            try with_reducible rfl
          (try simp only [Act.put, List.setIfInBounds_toArray, List.set_cons_zero, List.set_cons_succ])
          refine Mem.take (i := 11) (oi := ⟨some 46, Op.load 25 (Operand.tmp 45), _, _, _, none⟩) (v := ?_) rfl (by kernel_rfl) (by kernel_rfl) (by kernel_rfl) (fun _ _ _ h => h) (by rfl) sh.held ?_ ?_
          rotate_left
          · intro w' hh
            have F' := hh.1; have hd := hh.2; clear hh; simp only [Mem.Facts, Mem.CellsAt, Nat.reduceAdd] at F'; have hd1 := (HRW.out w' hd).1; have hd2 := (HRW.out w' hd).2.1
            go_simp
            try with_reducible rfl
          (try simp only [Act.put, List.setIfInBounds_toArray, List.set_cons_zero, List.set_cons_succ])
          refine Mem.branch [12, 16] (by kernel_rfl) (by simp) ?_
          refine Mem.Each.cons ?_ ?_
          · refine Mem.op_step (o := ⟨some 47, Op.call { callee := Callee.value (Operand.func 5), args := #[Operand.tmp 35, Operand.tmp 36, Operand.tmp 41, Operand.tmp 46], argTypes := #[23, 27, 3, 25] }, _, _, _, none⟩) rfl (by rfl) (fun K hK => ?_)
            go_simp
            go_fit (WB.out _ _ sh.ext_lt (HRW.out _ sh.data).2.2); rintro e w1 ⟨f', tm', s', n', cap', c1, zs', rfl, hc, hrob, hb⟩; replace sh := (sh.call hb).add hrob; clear hb hrob F; have F := sh.facts; simp only [Mem.Facts, Mem.CellsAt, Nat.reduceAdd] at F; go_simp
            refine hK _ _ sh.heldA ?_; clear hK K; (try simp only [Act.put, List.setIfInBounds_toArray, List.set_cons_zero, List.set_cons_succ])
            refine Mem.take (i := 13) (oi := ⟨some 34, Op.move (Operand.tmp 47), _, _, _, none⟩) (v := ?_) rfl (by kernel_rfl) (by kernel_rfl) (by kernel_rfl) (fun _ _ _ h => h) (by rfl) sh.heldA ?_ ?_
            rotate_left
            · intro w' hh
              clear hh; go_simp
              try with_reducible rfl
            (try simp only [Act.put, List.setIfInBounds_toArray, List.set_cons_zero, List.set_cons_succ])
            refine Mem.take (i := 14) (oi := ⟨some 48, Op.extract (Operand.tmp 34) 0, _, _, _, none⟩) (v := ?_) rfl (by kernel_rfl) (by kernel_rfl) (by kernel_rfl) (fun _ _ _ h => h) (by rfl) sh.heldA ?_ ?_
            rotate_left
            · intro w' hh
              clear hh; go_simp
              try with_reducible rfl
            (try simp only [Act.put, List.setIfInBounds_toArray, List.set_cons_zero, List.set_cons_succ])
            refine Mem.take (i := 15) (oi := ⟨some 49, Op.extract (Operand.tmp 34) 1, _, _, _, none⟩) (v := ?_) rfl (by kernel_rfl) (by kernel_rfl) (by kernel_rfl) (fun _ _ _ h => h) (by rfl) sh.heldA ?_ ?_
            rotate_left
            · intro w' hh
              clear hh; go_simp
              try with_reducible rfl
            (try simp only [Act.put, List.setIfInBounds_toArray, List.set_cons_zero, List.set_cons_succ])
            refine Mem.branch [16] (by kernel_rfl) (by simp) ?_
            refine Mem.Each.cons ?_ ?_
            · refine Mem.op_step (o := ⟨some 10, Op.alloc 27, _, _, _, none⟩) rfl (by rfl) (fun K hK => ?_)
              (first | refine Mem.wp_alloc Try.z_sample sh ?_); clear sh F; go_simp; intro b w1 sh; have F := sh.facts; simp only [Mem.Facts, Mem.CellsAt, Nat.reduceAdd] at F
              refine hK _ _ sh.heldA1 ?_; clear hK K; (try simp only [Act.put, List.setIfInBounds_toArray, List.set_cons_zero, List.set_cons_succ])
              refine Mem.branch [17] (by kernel_rfl) (by simp) ?_
              refine Mem.Each.cons ?_ ?_
              · refine Mem.op_step (o := ⟨none, Op.store 27 (Operand.tmp 10) (Operand.tmp 48), _, _, _, none⟩) rfl (by rfl) (fun K hK => ?_)
                (first | refine Mem.wp_store 0 sh rfl rfl rfl rfl (by kernel_rfl) (Nat.le_of_ble_eq_true rfl) rfl ?_ | refine Mem.wp_store 1 sh rfl rfl rfl rfl (by kernel_rfl) (Nat.le_of_ble_eq_true rfl) rfl ?_ | refine Mem.wp_store 2 sh rfl rfl rfl rfl (by kernel_rfl) (Nat.le_of_ble_eq_true rfl) rfl ?_ | refine Mem.wp_store 3 sh rfl rfl rfl rfl (by kernel_rfl) (Nat.le_of_ble_eq_true rfl) rfl ?_ | refine Mem.wp_store 4 sh rfl rfl rfl rfl (by kernel_rfl) (Nat.le_of_ble_eq_true rfl) rfl ?_ | refine Mem.wp_store 5 sh rfl rfl rfl rfl (by kernel_rfl) (Nat.le_of_ble_eq_true rfl) rfl ?_ | refine Mem.wp_store 6 sh rfl rfl rfl rfl (by kernel_rfl) (Nat.le_of_ble_eq_true rfl) rfl ?_); clear sh F; go_simp; intro w1 sh; have F := sh.facts; simp only [Mem.Facts, Mem.CellsAt, Nat.reduceAdd] at F
                refine hK _ _ sh.heldA1 ?_; clear hK K; (try simp only [Act.put, List.setIfInBounds_toArray, List.set_cons_zero, List.set_cons_succ])
                refine Mem.take (i := 18) (oi := ⟨some 11, Op.assign (Operand.tmp 49), _, _, _, none⟩) (v := ?_) rfl (by kernel_rfl) (by kernel_rfl) (by kernel_rfl) (fun _ _ _ h => h) (by rfl) sh.heldA1 ?_ ?_
                rotate_left
                · intro w' hh
                  clear hh; go_simp
                  try with_reducible rfl
                (try simp only [Act.put, List.setIfInBounds_toArray, List.set_cons_zero, List.set_cons_succ])
                refine wpAnyH_done (by kernel_rfl) ?_ _
                go_wp2; go_meet; case rel => exact ⟨_, _, _, _, _, _, _, _, rfl, rfl, sh, hc⟩
              exact Mem.Each.nil
            exact Mem.Each.nil
          refine Mem.Each.cons ?_ ?_
          · refine Mem.op_step (o := ⟨some 10, Op.alloc 27, _, _, _, none⟩) rfl (by rfl) (fun K hK => ?_)
            (first | refine Mem.wp_alloc Try.z_sample sh ?_); clear sh F; go_simp; intro b w1 sh; have F := sh.facts; simp only [Mem.Facts, Mem.CellsAt, Nat.reduceAdd] at F
            refine hK _ _ sh.held1 ?_; clear hK K; (try simp only [Act.put, List.setIfInBounds_toArray, List.set_cons_zero, List.set_cons_succ])
            refine Mem.branch [12] (by kernel_rfl) (by simp) ?_
            refine Mem.Each.cons ?_ ?_
            · refine Mem.op_step (o := ⟨some 47, Op.call { callee := Callee.value (Operand.func 5), args := #[Operand.tmp 35, Operand.tmp 36, Operand.tmp 41, Operand.tmp 46], argTypes := #[23, 27, 3, 25] }, _, _, _, none⟩) rfl (by rfl) (fun K hK => ?_)
              go_simp
              go_fit (WB.out _ _ sh.ext_lt (HRW.out _ sh.data).2.2); rintro e w1 ⟨f', tm', s', n', cap', c1, zs', rfl, hc, hrob, hb⟩; replace sh := (sh.call hb).add hrob; clear hb hrob F; have F := sh.facts; simp only [Mem.Facts, Mem.CellsAt, Nat.reduceAdd] at F; go_simp
              refine hK _ _ sh.heldA1 ?_; clear hK K; (try simp only [Act.put, List.setIfInBounds_toArray, List.set_cons_zero, List.set_cons_succ])
              refine Mem.take (i := 13) (oi := ⟨some 34, Op.move (Operand.tmp 47), _, _, _, none⟩) (v := ?_) rfl (by kernel_rfl) (by kernel_rfl) (by kernel_rfl) (fun _ _ _ h => h) (by rfl) sh.heldA1 ?_ ?_
              rotate_left
              · intro w' hh
                clear hh; go_simp
                try with_reducible rfl
              (try simp only [Act.put, List.setIfInBounds_toArray, List.set_cons_zero, List.set_cons_succ])
              refine Mem.take (i := 14) (oi := ⟨some 48, Op.extract (Operand.tmp 34) 0, _, _, _, none⟩) (v := ?_) rfl (by kernel_rfl) (by kernel_rfl) (by kernel_rfl) (fun _ _ _ h => h) (by rfl) sh.heldA1 ?_ ?_
              rotate_left
              · intro w' hh
                clear hh; go_simp
                try with_reducible rfl
              (try simp only [Act.put, List.setIfInBounds_toArray, List.set_cons_zero, List.set_cons_succ])
              refine Mem.take (i := 15) (oi := ⟨some 49, Op.extract (Operand.tmp 34) 1, _, _, _, none⟩) (v := ?_) rfl (by kernel_rfl) (by kernel_rfl) (by kernel_rfl) (fun _ _ _ h => h) (by rfl) sh.heldA1 ?_ ?_
              rotate_left
              · intro w' hh
                clear hh; go_simp
                try with_reducible rfl
              (try simp only [Act.put, List.setIfInBounds_toArray, List.set_cons_zero, List.set_cons_succ])
              refine Mem.branch [17] (by kernel_rfl) (by simp) ?_
              refine Mem.Each.cons ?_ ?_
              · refine Mem.op_step (o := ⟨none, Op.store 27 (Operand.tmp 10) (Operand.tmp 48), _, _, _, none⟩) rfl (by rfl) (fun K hK => ?_)
                (first | refine Mem.wp_store 0 sh rfl rfl rfl rfl (by kernel_rfl) (Nat.le_of_ble_eq_true rfl) rfl ?_ | refine Mem.wp_store 1 sh rfl rfl rfl rfl (by kernel_rfl) (Nat.le_of_ble_eq_true rfl) rfl ?_ | refine Mem.wp_store 2 sh rfl rfl rfl rfl (by kernel_rfl) (Nat.le_of_ble_eq_true rfl) rfl ?_ | refine Mem.wp_store 3 sh rfl rfl rfl rfl (by kernel_rfl) (Nat.le_of_ble_eq_true rfl) rfl ?_ | refine Mem.wp_store 4 sh rfl rfl rfl rfl (by kernel_rfl) (Nat.le_of_ble_eq_true rfl) rfl ?_ | refine Mem.wp_store 5 sh rfl rfl rfl rfl (by kernel_rfl) (Nat.le_of_ble_eq_true rfl) rfl ?_ | refine Mem.wp_store 6 sh rfl rfl rfl rfl (by kernel_rfl) (Nat.le_of_ble_eq_true rfl) rfl ?_); clear sh F; go_simp; intro w1 sh; have F := sh.facts; simp only [Mem.Facts, Mem.CellsAt, Nat.reduceAdd] at F
                refine hK _ _ sh.heldA1 ?_; clear hK K; (try simp only [Act.put, List.setIfInBounds_toArray, List.set_cons_zero, List.set_cons_succ])
                refine Mem.take (i := 18) (oi := ⟨some 11, Op.assign (Operand.tmp 49), _, _, _, none⟩) (v := ?_) rfl (by kernel_rfl) (by kernel_rfl) (by kernel_rfl) (fun _ _ _ h => h) (by rfl) sh.heldA1 ?_ ?_
                rotate_left
                · intro w' hh
                  clear hh; go_simp
                  try with_reducible rfl
                (try simp only [Act.put, List.setIfInBounds_toArray, List.set_cons_zero, List.set_cons_succ])
                refine wpAnyH_done (by kernel_rfl) ?_ _
                go_wp2; go_meet; case rel => exact ⟨_, _, _, _, _, _, _, _, rfl, rfl, sh, hc⟩
              exact Mem.Each.nil
            exact Mem.Each.nil
          exact Mem.Each.nil
        case rest =>
          clear sh F
          obtain ⟨b10, c1, f', tm', s', n', cap', zs', rfl, rfl, sh, hc⟩ := hcut
          have F := sh.facts; simp only [Mem.Facts, Mem.CellsAt, Nat.reduceAdd] at F
          by_cases h0 : c1 = 0
          · subst h0
            obtain ⟨hw, hx⟩ := hc.out
            obtain ⟨rfl, rfl, rfl, rfl⟩ := hx rfl
            clear hx
            have hz := SampP.wcode_zero hw.symm
            have HI := Lib.hid (fun W => sampIs_any kd fr tg size dep true tm' s' n' cap' W hs (by omega))
            rw [SampP.is_of hz.1 hz.2.1 hz.2.2.1 hz.2.2.2.1] at HI
            have HZ := Lib.hid hz
            clear hw hz hc
            go_wp2_with (first
                | ((with_reducible refine Mem.wpl_box sh ?_ ?_); exact rfl; clear sh; (try clear F); go_simp; intro b w1 sh; have F := sh.facts; simp only [Mem.Facts, Mem.CellsAt, Nat.reduceAdd] at F)
                | ((with_reducible refine Mem.wpl_alloc Try.z_sample sh ?_ ?_); exact rfl; clear sh; (try clear F); go_simp; intro b w1 sh; have F := sh.facts; simp only [Mem.Facts, Mem.CellsAt, Nat.reduceAdd] at F)
                | ((with_reducible refine Mem.atl_store ?_ ?_); exact rfl; (first | refine Mem.wp_store 0 sh rfl rfl rfl rfl (by kernel_rfl) (Nat.le_of_ble_eq_true rfl) rfl ?_ | refine Mem.wp_store 1 sh rfl rfl rfl rfl (by kernel_rfl) (Nat.le_of_ble_eq_true rfl) rfl ?_ | refine Mem.wp_store 2 sh rfl rfl rfl rfl (by kernel_rfl) (Nat.le_of_ble_eq_true rfl) rfl ?_ | refine Mem.wp_store 3 sh rfl rfl rfl rfl (by kernel_rfl) (Nat.le_of_ble_eq_true rfl) rfl ?_ | refine Mem.wp_store 4 sh rfl rfl rfl rfl (by kernel_rfl) (Nat.le_of_ble_eq_true rfl) rfl ?_ | refine Mem.wp_store 5 sh rfl rfl rfl rfl (by kernel_rfl) (Nat.le_of_ble_eq_true rfl) rfl ?_ | refine Mem.wp_store 6 sh rfl rfl rfl rfl (by kernel_rfl) (Nat.le_of_ble_eq_true rfl) rfl ?_); clear sh; (try clear F); go_simp; intro w1 sh; have F := sh.facts; simp only [Mem.Facts, Mem.CellsAt, Nat.reduceAdd] at F)
                | fail)
            go_fit (HI.out _)
            rintro e w1 ⟨rfl, hb⟩
            replace sh := sh.call hb; clear hb F; have F := sh.facts; simp only [Mem.Facts, Mem.CellsAt, Nat.reduceAdd] at F
            go_wp2_with (first
                | ((with_reducible refine Mem.wpl_box sh ?_ ?_); exact rfl; clear sh; (try clear F); go_simp; intro b w1 sh; have F := sh.facts; simp only [Mem.Facts, Mem.CellsAt, Nat.reduceAdd] at F)
                | ((with_reducible refine Mem.wpl_alloc Try.z_sample sh ?_ ?_); exact rfl; clear sh; (try clear F); go_simp; intro b w1 sh; have F := sh.facts; simp only [Mem.Facts, Mem.CellsAt, Nat.reduceAdd] at F)
                | ((with_reducible refine Mem.atl_store ?_ ?_); exact rfl; (first | refine Mem.wp_store 0 sh rfl rfl rfl rfl (by kernel_rfl) (Nat.le_of_ble_eq_true rfl) rfl ?_ | refine Mem.wp_store 1 sh rfl rfl rfl rfl (by kernel_rfl) (Nat.le_of_ble_eq_true rfl) rfl ?_ | refine Mem.wp_store 2 sh rfl rfl rfl rfl (by kernel_rfl) (Nat.le_of_ble_eq_true rfl) rfl ?_ | refine Mem.wp_store 3 sh rfl rfl rfl rfl (by kernel_rfl) (Nat.le_of_ble_eq_true rfl) rfl ?_ | refine Mem.wp_store 4 sh rfl rfl rfl rfl (by kernel_rfl) (Nat.le_of_ble_eq_true rfl) rfl ?_ | refine Mem.wp_store 5 sh rfl rfl rfl rfl (by kernel_rfl) (Nat.le_of_ble_eq_true rfl) rfl ?_ | refine Mem.wp_store 6 sh rfl rfl rfl rfl (by kernel_rfl) (Nat.le_of_ble_eq_true rfl) rfl ?_); clear sh; (try clear F); go_simp; intro w1 sh; have F := sh.facts; simp only [Mem.Facts, Mem.CellsAt, Nat.reduceAdd] at F)
                | fail)
            go_roundw
            case rel => exact ⟨k + 1, k, true, tm', s', n', cap', zs', by go_num, by go_num, by omega, sh.drop1.imp (fun W h => ⟨h.2.1, h.1⟩), HLN.out.symm, .inr ⟨k, by omega, rfl, rfl, HA.out.symm, by rw [HL.out], by omega, HZ.out.1, HZ.out.2.1, HZ.out.2.2.1, HZ.out.2.2.2.1⟩⟩
            case measure => simp [intOf]; omega
          · go_wp2_with (first
                | ((with_reducible refine Mem.wpl_box sh ?_ ?_); exact rfl; clear sh; (try clear F); go_simp; intro b w1 sh; have F := sh.facts; simp only [Mem.Facts, Mem.CellsAt, Nat.reduceAdd] at F)
                | ((with_reducible refine Mem.wpl_alloc Try.z_sample sh ?_ ?_); exact rfl; clear sh; (try clear F); go_simp; intro b w1 sh; have F := sh.facts; simp only [Mem.Facts, Mem.CellsAt, Nat.reduceAdd] at F)
                | ((with_reducible refine Mem.atl_store ?_ ?_); exact rfl; (first | refine Mem.wp_store 0 sh rfl rfl rfl rfl (by kernel_rfl) (Nat.le_of_ble_eq_true rfl) rfl ?_ | refine Mem.wp_store 1 sh rfl rfl rfl rfl (by kernel_rfl) (Nat.le_of_ble_eq_true rfl) rfl ?_ | refine Mem.wp_store 2 sh rfl rfl rfl rfl (by kernel_rfl) (Nat.le_of_ble_eq_true rfl) rfl ?_ | refine Mem.wp_store 3 sh rfl rfl rfl rfl (by kernel_rfl) (Nat.le_of_ble_eq_true rfl) rfl ?_ | refine Mem.wp_store 4 sh rfl rfl rfl rfl (by kernel_rfl) (Nat.le_of_ble_eq_true rfl) rfl ?_ | refine Mem.wp_store 5 sh rfl rfl rfl rfl (by kernel_rfl) (Nat.le_of_ble_eq_true rfl) rfl ?_ | refine Mem.wp_store 6 sh rfl rfl rfl rfl (by kernel_rfl) (Nat.le_of_ble_eq_true rfl) rfl ?_); clear sh; (try clear F); go_simp; intro w1 sh; have F := sh.facts; simp only [Mem.Facts, Mem.CellsAt, Nat.reduceAdd] at F)
                | fail)
            go_roundw
            case rel =>
              refine ⟨k + 1, l, f, tm, s, n, cap, zs, by go_num, by go_num, by omega, sh.drop1.imp (fun W h => h.2), KP.out.1, ?_⟩
              rcases KP.out.2 with h | ⟨j, h1, h2⟩
              · exact .inl h
              · exact .inr ⟨j, by omega, h2⟩
            case measure => simp [intOf]; omega
    · obtain rfl : k = N := by omega
      rcases KP.out with ⟨hzn, ⟨rfl, rfl, rfl, rfl⟩ | ⟨j, hj, rfl, rfl, hA, hL, hn100, ht, hf, hz1, hz8⟩⟩
      · simp only [List.length_nil] at hzn
        subst hzn
        have hc0 : SampP.rcode size false 0 0 tk ≠ 0 := by unfold SampP.rcode; split <;> simp
        have R1 := Lib.hid (fun W => sampRead_bad kd fr tg size dep false 0 s [] 0 cap tk W hs (by decide) rfl (Rd.nil _ _ _) htm htk (SampP.rcode size false 0 0 tk) rfl hc0)
        generalize SampP.rcode size false 0 0 tk = c at *
        go_wp2_with (first
            | ((with_reducible refine Mem.wpl_box sh ?_ ?_); exact rfl; clear sh; (try clear F); go_simp; intro b w1 sh; have F := sh.facts; simp only [Mem.Facts, Mem.CellsAt, Nat.reduceAdd] at F)
            | ((with_reducible refine Mem.wpl_alloc Try.z_sample sh ?_ ?_); exact rfl; clear sh; (try clear F); go_simp; intro b w1 sh; have F := sh.facts; simp only [Mem.Facts, Mem.CellsAt, Nat.reduceAdd] at F)
            | ((with_reducible refine Mem.atl_store ?_ ?_); exact rfl; (first | refine Mem.wp_store 0 sh rfl rfl rfl rfl (by kernel_rfl) (Nat.le_of_ble_eq_true rfl) rfl ?_ | refine Mem.wp_store 1 sh rfl rfl rfl rfl (by kernel_rfl) (Nat.le_of_ble_eq_true rfl) rfl ?_ | refine Mem.wp_store 2 sh rfl rfl rfl rfl (by kernel_rfl) (Nat.le_of_ble_eq_true rfl) rfl ?_ | refine Mem.wp_store 3 sh rfl rfl rfl rfl (by kernel_rfl) (Nat.le_of_ble_eq_true rfl) rfl ?_ | refine Mem.wp_store 4 sh rfl rfl rfl rfl (by kernel_rfl) (Nat.le_of_ble_eq_true rfl) rfl ?_ | refine Mem.wp_store 5 sh rfl rfl rfl rfl (by kernel_rfl) (Nat.le_of_ble_eq_true rfl) rfl ?_ | refine Mem.wp_store 6 sh rfl rfl rfl rfl (by kernel_rfl) (Nat.le_of_ble_eq_true rfl) rfl ?_); clear sh; (try clear F); go_simp; intro w1 sh; have F := sh.facts; simp only [Mem.Facts, Mem.CellsAt, Nat.reduceAdd] at F)
            | fail)
        go_fit (R1.out _)
        rintro e w1 ⟨rfl, hb⟩
        replace sh := sh.call hb; clear hb F; have F := sh.facts; simp only [Mem.Facts, Mem.CellsAt, Nat.reduceAdd] at F
        go_wp2_with (first
            | ((with_reducible refine Mem.wpl_box sh ?_ ?_); exact rfl; clear sh; (try clear F); go_simp; intro b w1 sh; have F := sh.facts; simp only [Mem.Facts, Mem.CellsAt, Nat.reduceAdd] at F)
            | ((with_reducible refine Mem.wpl_alloc Try.z_sample sh ?_ ?_); exact rfl; clear sh; (try clear F); go_simp; intro b w1 sh; have F := sh.facts; simp only [Mem.Facts, Mem.CellsAt, Nat.reduceAdd] at F)
            | ((with_reducible refine Mem.atl_store ?_ ?_); exact rfl; (first | refine Mem.wp_store 0 sh rfl rfl rfl rfl (by kernel_rfl) (Nat.le_of_ble_eq_true rfl) rfl ?_ | refine Mem.wp_store 1 sh rfl rfl rfl rfl (by kernel_rfl) (Nat.le_of_ble_eq_true rfl) rfl ?_ | refine Mem.wp_store 2 sh rfl rfl rfl rfl (by kernel_rfl) (Nat.le_of_ble_eq_true rfl) rfl ?_ | refine Mem.wp_store 3 sh rfl rfl rfl rfl (by kernel_rfl) (Nat.le_of_ble_eq_true rfl) rfl ?_ | refine Mem.wp_store 4 sh rfl rfl rfl rfl (by kernel_rfl) (Nat.le_of_ble_eq_true rfl) rfl ?_ | refine Mem.wp_store 5 sh rfl rfl rfl rfl (by kernel_rfl) (Nat.le_of_ble_eq_true rfl) rfl ?_ | refine Mem.wp_store 6 sh rfl rfl rfl rfl (by kernel_rfl) (Nat.le_of_ble_eq_true rfl) rfl ?_); clear sh; (try clear F); go_simp; intro w1 sh; have F := sh.facts; simp only [Mem.Facts, Mem.CellsAt, Nat.reduceAdd] at F)
            | fail)
        go_fit (R1.out _)
        rintro e w1 ⟨rfl, hb⟩
        replace sh := sh.call hb; clear hb F; have F := sh.facts; simp only [Mem.Facts, Mem.CellsAt, Nat.reduceAdd] at F
        go_wp2_with (first
            | ((with_reducible refine Mem.wpl_box sh ?_ ?_); exact rfl; clear sh; (try clear F); go_simp; intro b w1 sh; have F := sh.facts; simp only [Mem.Facts, Mem.CellsAt, Nat.reduceAdd] at F)
            | ((with_reducible refine Mem.wpl_alloc Try.z_sample sh ?_ ?_); exact rfl; clear sh; (try clear F); go_simp; intro b w1 sh; have F := sh.facts; simp only [Mem.Facts, Mem.CellsAt, Nat.reduceAdd] at F)
            | ((with_reducible refine Mem.atl_store ?_ ?_); exact rfl; (first | refine Mem.wp_store 0 sh rfl rfl rfl rfl (by kernel_rfl) (Nat.le_of_ble_eq_true rfl) rfl ?_ | refine Mem.wp_store 1 sh rfl rfl rfl rfl (by kernel_rfl) (Nat.le_of_ble_eq_true rfl) rfl ?_ | refine Mem.wp_store 2 sh rfl rfl rfl rfl (by kernel_rfl) (Nat.le_of_ble_eq_true rfl) rfl ?_ | refine Mem.wp_store 3 sh rfl rfl rfl rfl (by kernel_rfl) (Nat.le_of_ble_eq_true rfl) rfl ?_ | refine Mem.wp_store 4 sh rfl rfl rfl rfl (by kernel_rfl) (Nat.le_of_ble_eq_true rfl) rfl ?_ | refine Mem.wp_store 5 sh rfl rfl rfl rfl (by kernel_rfl) (Nat.le_of_ble_eq_true rfl) rfl ?_ | refine Mem.wp_store 6 sh rfl rfl rfl rfl (by kernel_rfl) (Nat.le_of_ble_eq_true rfl) rfl ?_); clear sh; (try clear F); go_simp; intro w1 sh; have F := sh.facts; simp only [Mem.Facts, Mem.CellsAt, Nat.reduceAdd] at F)
            | fail)
        go_fit (sampled_any _)
        rintro e w1 ⟨rfl, hb⟩
        replace sh := sh.call hb; clear hb F; have F := sh.facts; simp only [Mem.Facts, Mem.CellsAt, Nat.reduceAdd] at F
        go_wp2_with (first
            | ((with_reducible refine Mem.wpl_box sh ?_ ?_); exact rfl; clear sh; (try clear F); go_simp; intro b w1 sh; have F := sh.facts; simp only [Mem.Facts, Mem.CellsAt, Nat.reduceAdd] at F)
            | ((with_reducible refine Mem.wpl_alloc Try.z_sample sh ?_ ?_); exact rfl; clear sh; (try clear F); go_simp; intro b w1 sh; have F := sh.facts; simp only [Mem.Facts, Mem.CellsAt, Nat.reduceAdd] at F)
            | ((with_reducible refine Mem.atl_store ?_ ?_); exact rfl; (first | refine Mem.wp_store 0 sh rfl rfl rfl rfl (by kernel_rfl) (Nat.le_of_ble_eq_true rfl) rfl ?_ | refine Mem.wp_store 1 sh rfl rfl rfl rfl (by kernel_rfl) (Nat.le_of_ble_eq_true rfl) rfl ?_ | refine Mem.wp_store 2 sh rfl rfl rfl rfl (by kernel_rfl) (Nat.le_of_ble_eq_true rfl) rfl ?_ | refine Mem.wp_store 3 sh rfl rfl rfl rfl (by kernel_rfl) (Nat.le_of_ble_eq_true rfl) rfl ?_ | refine Mem.wp_store 4 sh rfl rfl rfl rfl (by kernel_rfl) (Nat.le_of_ble_eq_true rfl) rfl ?_ | refine Mem.wp_store 5 sh rfl rfl rfl rfl (by kernel_rfl) (Nat.le_of_ble_eq_true rfl) rfl ?_ | refine Mem.wp_store 6 sh rfl rfl rfl rfl (by kernel_rfl) (Nat.le_of_ble_eq_true rfl) rfl ?_); clear sh; (try clear F); go_simp; intro w1 sh; have F := sh.facts; simp only [Mem.Facts, Mem.CellsAt, Nat.reduceAdd] at F)
            | fail)
        go_ret
        exact ⟨ret_bool (by simp [hc0]), sh.below⟩
      · obtain ⟨p, HP, _⟩ := sh.data.1 (by omega)
        subst HP
        have HRW := Lib.hid (fun W (h : SampP.Dat (some p) k At L s zs W) => h.cells rfl hj)
        have HRS := Lib.hid (fun W (h : SampP.Dat (some p) k At L s zs W) => h.2)
        rw [← hA, ← hL] at HRW
        have hjI : (0 : Int) ≤ (j : Int) := by omega
        have hjk : (j : Int) < (k : Int) := by omega
        have HI := Lib.hid (SampP.is_of ht hf hz1 hz8)
        have hzl := Lib.hid hzn
        have HL2 := Lib.hid hL
        clear hA hL hzn KP hf HROW
        rw [hzl.out.symm] at HRW
        have htm0 : 0 ≤ tm := by simp [SampP.tick] at ht; omega
        have HT := Lib.hid ht
        clear ht
        by_cases hbad : SampP.tick tk = false ∨ tk < tm
        · have hc0 : SampP.rcode size true tm n tk = 6 := by simp [SampP.rcode, HI.out, hbad]
          have R1 := Lib.hid (fun W h => sampRead_bad kd fr tg size dep true tm s zs n cap tk W hs hnb hzl.out h htm htk 6 hc0 (by decide))
          have hend : (decide (tk < tm) || decide (1099511627776 < tk)) = true := by
            rcases hbad with h | h
            · simp [SampP.tick] at h; simp; omega
            · simp [h]
          have HE := Lib.hid hend
          clear hend hc0 hbad
          go_wp2_with (first
              | ((with_reducible refine Mem.wpl_box sh ?_ ?_); exact rfl; clear sh; (try clear F); go_simp; intro b w1 sh; have F := sh.facts; simp only [Mem.Facts, Mem.CellsAt, Nat.reduceAdd] at F)
              | ((with_reducible refine Mem.wpl_alloc Try.z_sample sh ?_ ?_); exact rfl; clear sh; (try clear F); go_simp; intro b w1 sh; have F := sh.facts; simp only [Mem.Facts, Mem.CellsAt, Nat.reduceAdd] at F)
              | ((with_reducible refine Mem.atl_store ?_ ?_); exact rfl; (first | refine Mem.wp_store 0 sh rfl rfl rfl rfl (by kernel_rfl) (Nat.le_of_ble_eq_true rfl) rfl ?_ | refine Mem.wp_store 1 sh rfl rfl rfl rfl (by kernel_rfl) (Nat.le_of_ble_eq_true rfl) rfl ?_ | refine Mem.wp_store 2 sh rfl rfl rfl rfl (by kernel_rfl) (Nat.le_of_ble_eq_true rfl) rfl ?_ | refine Mem.wp_store 3 sh rfl rfl rfl rfl (by kernel_rfl) (Nat.le_of_ble_eq_true rfl) rfl ?_ | refine Mem.wp_store 4 sh rfl rfl rfl rfl (by kernel_rfl) (Nat.le_of_ble_eq_true rfl) rfl ?_ | refine Mem.wp_store 5 sh rfl rfl rfl rfl (by kernel_rfl) (Nat.le_of_ble_eq_true rfl) rfl ?_ | refine Mem.wp_store 6 sh rfl rfl rfl rfl (by kernel_rfl) (Nat.le_of_ble_eq_true rfl) rfl ?_); clear sh; (try clear F); go_simp; intro w1 sh; have F := sh.facts; simp only [Mem.Facts, Mem.CellsAt, Nat.reduceAdd] at F)
              | fail)
          go_fit (R1.out _ (HRS.out _ sh.data))
          rintro e w1 ⟨rfl, hb⟩
          replace sh := sh.call hb; clear hb F; have F := sh.facts; simp only [Mem.Facts, Mem.CellsAt, Nat.reduceAdd] at F
          go_wp2_with (first
              | ((with_reducible refine Mem.wpl_box sh ?_ ?_); exact rfl; clear sh; (try clear F); go_simp; intro b w1 sh; have F := sh.facts; simp only [Mem.Facts, Mem.CellsAt, Nat.reduceAdd] at F)
              | ((with_reducible refine Mem.wpl_alloc Try.z_sample sh ?_ ?_); exact rfl; clear sh; (try clear F); go_simp; intro b w1 sh; have F := sh.facts; simp only [Mem.Facts, Mem.CellsAt, Nat.reduceAdd] at F)
              | ((with_reducible refine Mem.atl_store ?_ ?_); exact rfl; (first | refine Mem.wp_store 0 sh rfl rfl rfl rfl (by kernel_rfl) (Nat.le_of_ble_eq_true rfl) rfl ?_ | refine Mem.wp_store 1 sh rfl rfl rfl rfl (by kernel_rfl) (Nat.le_of_ble_eq_true rfl) rfl ?_ | refine Mem.wp_store 2 sh rfl rfl rfl rfl (by kernel_rfl) (Nat.le_of_ble_eq_true rfl) rfl ?_ | refine Mem.wp_store 3 sh rfl rfl rfl rfl (by kernel_rfl) (Nat.le_of_ble_eq_true rfl) rfl ?_ | refine Mem.wp_store 4 sh rfl rfl rfl rfl (by kernel_rfl) (Nat.le_of_ble_eq_true rfl) rfl ?_ | refine Mem.wp_store 5 sh rfl rfl rfl rfl (by kernel_rfl) (Nat.le_of_ble_eq_true rfl) rfl ?_ | refine Mem.wp_store 6 sh rfl rfl rfl rfl (by kernel_rfl) (Nat.le_of_ble_eq_true rfl) rfl ?_); clear sh; (try clear F); go_simp; intro w1 sh; have F := sh.facts; simp only [Mem.Facts, Mem.CellsAt, Nat.reduceAdd] at F)
              | fail)
          go_fit (R1.out _ (HRS.out _ sh.data))
          rintro e w1 ⟨rfl, hb⟩
          replace sh := sh.call hb; clear hb F; have F := sh.facts; simp only [Mem.Facts, Mem.CellsAt, Nat.reduceAdd] at F
          go_wp2_with (first
              | ((with_reducible refine Mem.wpl_box sh ?_ ?_); exact rfl; clear sh; (try clear F); go_simp; intro b w1 sh; have F := sh.facts; simp only [Mem.Facts, Mem.CellsAt, Nat.reduceAdd] at F)
              | ((with_reducible refine Mem.wpl_alloc Try.z_sample sh ?_ ?_); exact rfl; clear sh; (try clear F); go_simp; intro b w1 sh; have F := sh.facts; simp only [Mem.Facts, Mem.CellsAt, Nat.reduceAdd] at F)
              | ((with_reducible refine Mem.atl_store ?_ ?_); exact rfl; (first | refine Mem.wp_store 0 sh rfl rfl rfl rfl (by kernel_rfl) (Nat.le_of_ble_eq_true rfl) rfl ?_ | refine Mem.wp_store 1 sh rfl rfl rfl rfl (by kernel_rfl) (Nat.le_of_ble_eq_true rfl) rfl ?_ | refine Mem.wp_store 2 sh rfl rfl rfl rfl (by kernel_rfl) (Nat.le_of_ble_eq_true rfl) rfl ?_ | refine Mem.wp_store 3 sh rfl rfl rfl rfl (by kernel_rfl) (Nat.le_of_ble_eq_true rfl) rfl ?_ | refine Mem.wp_store 4 sh rfl rfl rfl rfl (by kernel_rfl) (Nat.le_of_ble_eq_true rfl) rfl ?_ | refine Mem.wp_store 5 sh rfl rfl rfl rfl (by kernel_rfl) (Nat.le_of_ble_eq_true rfl) rfl ?_ | refine Mem.wp_store 6 sh rfl rfl rfl rfl (by kernel_rfl) (Nat.le_of_ble_eq_true rfl) rfl ?_); clear sh; (try clear F); go_simp; intro w1 sh; have F := sh.facts; simp only [Mem.Facts, Mem.CellsAt, Nat.reduceAdd] at F)
              | fail)
          go_fit (sampled_any _)
          rintro e w1 ⟨rfl, hb⟩
          replace sh := sh.call hb; clear hb F; have F := sh.facts; simp only [Mem.Facts, Mem.CellsAt, Nat.reduceAdd] at F
          have hr1 := (HRW.out _ sh.data).1
          go_wp2_with (first
              | ((with_reducible refine Mem.wpl_box sh ?_ ?_); exact rfl; clear sh; (try clear F); go_simp; intro b w1 sh; have F := sh.facts; simp only [Mem.Facts, Mem.CellsAt, Nat.reduceAdd] at F)
              | ((with_reducible refine Mem.wpl_alloc Try.z_sample sh ?_ ?_); exact rfl; clear sh; (try clear F); go_simp; intro b w1 sh; have F := sh.facts; simp only [Mem.Facts, Mem.CellsAt, Nat.reduceAdd] at F)
              | ((with_reducible refine Mem.atl_store ?_ ?_); exact rfl; (first | refine Mem.wp_store 0 sh rfl rfl rfl rfl (by kernel_rfl) (Nat.le_of_ble_eq_true rfl) rfl ?_ | refine Mem.wp_store 1 sh rfl rfl rfl rfl (by kernel_rfl) (Nat.le_of_ble_eq_true rfl) rfl ?_ | refine Mem.wp_store 2 sh rfl rfl rfl rfl (by kernel_rfl) (Nat.le_of_ble_eq_true rfl) rfl ?_ | refine Mem.wp_store 3 sh rfl rfl rfl rfl (by kernel_rfl) (Nat.le_of_ble_eq_true rfl) rfl ?_ | refine Mem.wp_store 4 sh rfl rfl rfl rfl (by kernel_rfl) (Nat.le_of_ble_eq_true rfl) rfl ?_ | refine Mem.wp_store 5 sh rfl rfl rfl rfl (by kernel_rfl) (Nat.le_of_ble_eq_true rfl) rfl ?_ | refine Mem.wp_store 6 sh rfl rfl rfl rfl (by kernel_rfl) (Nat.le_of_ble_eq_true rfl) rfl ?_); clear sh; (try clear F); go_simp; intro w1 sh; have F := sh.facts; simp only [Mem.Facts, Mem.CellsAt, Nat.reduceAdd] at F)
              | fail)
          all_goals go_ret
          all_goals exact ⟨ret_bool (by first | rfl | (have := HE.out; simp_all) | (have := HE.out; simp at this; omega)), sh.below⟩
        · have hc0 : SampP.rcode size true tm n tk = 0 := by simp [SampP.rcode, HI.out, hbad]
          have ht2 : 0 ≤ tk ∧ tk ≤ 1099511627776 ∧ tm ≤ tk := by
            cases h : SampP.tick tk with
            | false => simp [h] at hbad
            | true => simp [SampP.tick] at h; simp [h] at hbad; omega
          obtain ⟨ht2a, ht2b, ht2c⟩ := ht2
          have R1 := Lib.hid (fun S W h hd => sampRead_rob S kd fr tg size dep true tm s zs n cap tk W hs hnb hzl.out h hd htm htk hc0)
          have F1 := Lib.hid (fun W h => sampFresh_any kd fr tg size dep true tm s zs n cap tk (tk - tm) W hs hnb hzl.out h htm htk (by omega))
          have F2 := Lib.hid (fun W h => sampFresh_any kd fr tg size dep true tm s zs n cap tk (tk - tm - 1) W hs hnb hzl.out h htm htk (by omega))
          rw [show (decide (SampP.rcode size true tm n tk = 0) && decide (tk - tm ≤ tk - tm)) = true by simp [hc0]] at F1
          rw [show (decide (SampP.rcode size true tm n tk = 0) && decide (tk - tm ≤ tk - tm - 1)) = false by simp; omega] at F2
          have S1 := Lib.hid (fun (r r2 : Option Addr) (c1 c2 : Nat) (W : World) h1 h2 => rowsSame_any r r2 zs zs n n c1 c2 W hzl.out hzl.out h1 h2 hnb)
          rw [show (zs == zs) = true by simp] at S1
          clear hc0 hbad
          have ha0 : (0 : Int) ≤ tk - tm := by omega
          go_wp2_with (first
              | ((with_reducible refine Mem.wpl_box sh ?_ ?_); exact rfl; clear sh; (try clear F); go_simp; intro b w1 sh; have F := sh.facts; simp only [Mem.Facts, Mem.CellsAt, Nat.reduceAdd] at F)
              | ((with_reducible refine Mem.wpl_alloc Try.z_sample sh ?_ ?_); exact rfl; clear sh; (try clear F); go_simp; intro b w1 sh; have F := sh.facts; simp only [Mem.Facts, Mem.CellsAt, Nat.reduceAdd] at F)
              | ((with_reducible refine Mem.atl_store ?_ ?_); exact rfl; (first | refine Mem.wp_store 0 sh rfl rfl rfl rfl (by kernel_rfl) (Nat.le_of_ble_eq_true rfl) rfl ?_ | refine Mem.wp_store 1 sh rfl rfl rfl rfl (by kernel_rfl) (Nat.le_of_ble_eq_true rfl) rfl ?_ | refine Mem.wp_store 2 sh rfl rfl rfl rfl (by kernel_rfl) (Nat.le_of_ble_eq_true rfl) rfl ?_ | refine Mem.wp_store 3 sh rfl rfl rfl rfl (by kernel_rfl) (Nat.le_of_ble_eq_true rfl) rfl ?_ | refine Mem.wp_store 4 sh rfl rfl rfl rfl (by kernel_rfl) (Nat.le_of_ble_eq_true rfl) rfl ?_ | refine Mem.wp_store 5 sh rfl rfl rfl rfl (by kernel_rfl) (Nat.le_of_ble_eq_true rfl) rfl ?_ | refine Mem.wp_store 6 sh rfl rfl rfl rfl (by kernel_rfl) (Nat.le_of_ble_eq_true rfl) rfl ?_); clear sh; (try clear F); go_simp; intro w1 sh; have F := sh.facts; simp only [Mem.Facts, Mem.CellsAt, Nat.reduceAdd] at F)
              | fail)
          go_fit (R1.out _ _ (HRS.out _ sh.data) sh.ext_lt)
          rintro e w1 ⟨g1, rfl, hr1, hb⟩
          replace sh := sh.call hb; clear hb F; have F := sh.facts; simp only [Mem.Facts, Mem.CellsAt, Nat.reduceAdd] at F
          replace sh := sh.add hr1
          clear hr1
          go_wp2_with (first
              | ((with_reducible refine Mem.wpl_box sh ?_ ?_); exact rfl; clear sh; (try clear F); go_simp; intro b w1 sh; have F := sh.facts; simp only [Mem.Facts, Mem.CellsAt, Nat.reduceAdd] at F)
              | ((with_reducible refine Mem.wpl_alloc Try.z_sample sh ?_ ?_); exact rfl; clear sh; (try clear F); go_simp; intro b w1 sh; have F := sh.facts; simp only [Mem.Facts, Mem.CellsAt, Nat.reduceAdd] at F)
              | ((with_reducible refine Mem.atl_store ?_ ?_); exact rfl; (first | refine Mem.wp_store 0 sh rfl rfl rfl rfl (by kernel_rfl) (Nat.le_of_ble_eq_true rfl) rfl ?_ | refine Mem.wp_store 1 sh rfl rfl rfl rfl (by kernel_rfl) (Nat.le_of_ble_eq_true rfl) rfl ?_ | refine Mem.wp_store 2 sh rfl rfl rfl rfl (by kernel_rfl) (Nat.le_of_ble_eq_true rfl) rfl ?_ | refine Mem.wp_store 3 sh rfl rfl rfl rfl (by kernel_rfl) (Nat.le_of_ble_eq_true rfl) rfl ?_ | refine Mem.wp_store 4 sh rfl rfl rfl rfl (by kernel_rfl) (Nat.le_of_ble_eq_true rfl) rfl ?_ | refine Mem.wp_store 5 sh rfl rfl rfl rfl (by kernel_rfl) (Nat.le_of_ble_eq_true rfl) rfl ?_ | refine Mem.wp_store 6 sh rfl rfl rfl rfl (by kernel_rfl) (Nat.le_of_ble_eq_true rfl) rfl ?_); clear sh; (try clear F); go_simp; intro w1 sh; have F := sh.facts; simp only [Mem.Facts, Mem.CellsAt, Nat.reduceAdd] at F)
              | fail)
          go_fit (R1.out _ _ (HRS.out _ sh.data.2) sh.ext_lt)
          rintro e w1 ⟨g2, rfl, hr2, hb⟩
          replace sh := sh.call hb; clear hb F; have F := sh.facts; simp only [Mem.Facts, Mem.CellsAt, Nat.reduceAdd] at F
          replace sh := sh.add hr2
          clear hr2
          go_wp2_with (first
              | ((with_reducible refine Mem.wpl_box sh ?_ ?_); exact rfl; clear sh; (try clear F); go_simp; intro b w1 sh; have F := sh.facts; simp only [Mem.Facts, Mem.CellsAt, Nat.reduceAdd] at F)
              | ((with_reducible refine Mem.wpl_alloc Try.z_sample sh ?_ ?_); exact rfl; clear sh; (try clear F); go_simp; intro b w1 sh; have F := sh.facts; simp only [Mem.Facts, Mem.CellsAt, Nat.reduceAdd] at F)
              | ((with_reducible refine Mem.atl_store ?_ ?_); exact rfl; (first | refine Mem.wp_store 0 sh rfl rfl rfl rfl (by kernel_rfl) (Nat.le_of_ble_eq_true rfl) rfl ?_ | refine Mem.wp_store 1 sh rfl rfl rfl rfl (by kernel_rfl) (Nat.le_of_ble_eq_true rfl) rfl ?_ | refine Mem.wp_store 2 sh rfl rfl rfl rfl (by kernel_rfl) (Nat.le_of_ble_eq_true rfl) rfl ?_ | refine Mem.wp_store 3 sh rfl rfl rfl rfl (by kernel_rfl) (Nat.le_of_ble_eq_true rfl) rfl ?_ | refine Mem.wp_store 4 sh rfl rfl rfl rfl (by kernel_rfl) (Nat.le_of_ble_eq_true rfl) rfl ?_ | refine Mem.wp_store 5 sh rfl rfl rfl rfl (by kernel_rfl) (Nat.le_of_ble_eq_true rfl) rfl ?_ | refine Mem.wp_store 6 sh rfl rfl rfl rfl (by kernel_rfl) (Nat.le_of_ble_eq_true rfl) rfl ?_); clear sh; (try clear F); go_simp; intro w1 sh; have F := sh.facts; simp only [Mem.Facts, Mem.CellsAt, Nat.reduceAdd] at F)
              | fail)
          go_fit (sampled_any _)
          rintro e w1 ⟨rfl, hb⟩
          replace sh := sh.call hb; clear hb F; have F := sh.facts; simp only [Mem.Facts, Mem.CellsAt, Nat.reduceAdd] at F
          go_wp2_with (first
              | ((with_reducible refine Mem.wpl_box sh ?_ ?_); exact rfl; clear sh; (try clear F); go_simp; intro b w1 sh; have F := sh.facts; simp only [Mem.Facts, Mem.CellsAt, Nat.reduceAdd] at F)
              | ((with_reducible refine Mem.wpl_alloc Try.z_sample sh ?_ ?_); exact rfl; clear sh; (try clear F); go_simp; intro b w1 sh; have F := sh.facts; simp only [Mem.Facts, Mem.CellsAt, Nat.reduceAdd] at F)
              | ((with_reducible refine Mem.atl_store ?_ ?_); exact rfl; (first | refine Mem.wp_store 0 sh rfl rfl rfl rfl (by kernel_rfl) (Nat.le_of_ble_eq_true rfl) rfl ?_ | refine Mem.wp_store 1 sh rfl rfl rfl rfl (by kernel_rfl) (Nat.le_of_ble_eq_true rfl) rfl ?_ | refine Mem.wp_store 2 sh rfl rfl rfl rfl (by kernel_rfl) (Nat.le_of_ble_eq_true rfl) rfl ?_ | refine Mem.wp_store 3 sh rfl rfl rfl rfl (by kernel_rfl) (Nat.le_of_ble_eq_true rfl) rfl ?_ | refine Mem.wp_store 4 sh rfl rfl rfl rfl (by kernel_rfl) (Nat.le_of_ble_eq_true rfl) rfl ?_ | refine Mem.wp_store 5 sh rfl rfl rfl rfl (by kernel_rfl) (Nat.le_of_ble_eq_true rfl) rfl ?_ | refine Mem.wp_store 6 sh rfl rfl rfl rfl (by kernel_rfl) (Nat.le_of_ble_eq_true rfl) rfl ?_); clear sh; (try clear F); go_simp; intro w1 sh; have F := sh.facts; simp only [Mem.Facts, Mem.CellsAt, Nat.reduceAdd] at F)
              | fail)
          go_fit (S1.out _ _ _ _ _ sh.data.2.1 sh.data.1)
          rintro e w1 ⟨rfl, hb⟩
          replace sh := sh.call hb; clear hb F; have F := sh.facts; simp only [Mem.Facts, Mem.CellsAt, Nat.reduceAdd] at F
          have hr1 := (HRW.out _ sh.data.2.2).2.1
          go_wp2_with (first
              | ((with_reducible refine Mem.wpl_box sh ?_ ?_); exact rfl; clear sh; (try clear F); go_simp; intro b w1 sh; have F := sh.facts; simp only [Mem.Facts, Mem.CellsAt, Nat.reduceAdd] at F)
              | ((with_reducible refine Mem.wpl_alloc Try.z_sample sh ?_ ?_); exact rfl; clear sh; (try clear F); go_simp; intro b w1 sh; have F := sh.facts; simp only [Mem.Facts, Mem.CellsAt, Nat.reduceAdd] at F)
              | ((with_reducible refine Mem.atl_store ?_ ?_); exact rfl; (first | refine Mem.wp_store 0 sh rfl rfl rfl rfl (by kernel_rfl) (Nat.le_of_ble_eq_true rfl) rfl ?_ | refine Mem.wp_store 1 sh rfl rfl rfl rfl (by kernel_rfl) (Nat.le_of_ble_eq_true rfl) rfl ?_ | refine Mem.wp_store 2 sh rfl rfl rfl rfl (by kernel_rfl) (Nat.le_of_ble_eq_true rfl) rfl ?_ | refine Mem.wp_store 3 sh rfl rfl rfl rfl (by kernel_rfl) (Nat.le_of_ble_eq_true rfl) rfl ?_ | refine Mem.wp_store 4 sh rfl rfl rfl rfl (by kernel_rfl) (Nat.le_of_ble_eq_true rfl) rfl ?_ | refine Mem.wp_store 5 sh rfl rfl rfl rfl (by kernel_rfl) (Nat.le_of_ble_eq_true rfl) rfl ?_ | refine Mem.wp_store 6 sh rfl rfl rfl rfl (by kernel_rfl) (Nat.le_of_ble_eq_true rfl) rfl ?_); clear sh; (try clear F); go_simp; intro w1 sh; have F := sh.facts; simp only [Mem.Facts, Mem.CellsAt, Nat.reduceAdd] at F)
              | fail)
          go_fit (S1.out _ _ _ _ _ sh.data.2.1 (HRW.out _ sh.data.2.2).2.2)
          rintro e w1 ⟨rfl, hb⟩
          replace sh := sh.call hb; clear hb F; have F := sh.facts; simp only [Mem.Facts, Mem.CellsAt, Nat.reduceAdd] at F
          clear hr1
          have hr1 := (HRW.out _ sh.data.2.2).1
          go_wp2_with (first
              | ((with_reducible refine Mem.wpl_box sh ?_ ?_); exact rfl; clear sh; (try clear F); go_simp; intro b w1 sh; have F := sh.facts; simp only [Mem.Facts, Mem.CellsAt, Nat.reduceAdd] at F)
              | ((with_reducible refine Mem.wpl_alloc Try.z_sample sh ?_ ?_); exact rfl; clear sh; (try clear F); go_simp; intro b w1 sh; have F := sh.facts; simp only [Mem.Facts, Mem.CellsAt, Nat.reduceAdd] at F)
              | ((with_reducible refine Mem.atl_store ?_ ?_); exact rfl; (first | refine Mem.wp_store 0 sh rfl rfl rfl rfl (by kernel_rfl) (Nat.le_of_ble_eq_true rfl) rfl ?_ | refine Mem.wp_store 1 sh rfl rfl rfl rfl (by kernel_rfl) (Nat.le_of_ble_eq_true rfl) rfl ?_ | refine Mem.wp_store 2 sh rfl rfl rfl rfl (by kernel_rfl) (Nat.le_of_ble_eq_true rfl) rfl ?_ | refine Mem.wp_store 3 sh rfl rfl rfl rfl (by kernel_rfl) (Nat.le_of_ble_eq_true rfl) rfl ?_ | refine Mem.wp_store 4 sh rfl rfl rfl rfl (by kernel_rfl) (Nat.le_of_ble_eq_true rfl) rfl ?_ | refine Mem.wp_store 5 sh rfl rfl rfl rfl (by kernel_rfl) (Nat.le_of_ble_eq_true rfl) rfl ?_ | refine Mem.wp_store 6 sh rfl rfl rfl rfl (by kernel_rfl) (Nat.le_of_ble_eq_true rfl) rfl ?_); clear sh; (try clear F); go_simp; intro w1 sh; have F := sh.facts; simp only [Mem.Facts, Mem.CellsAt, Nat.reduceAdd] at F)
              | fail)
          go_fit (F1.out _ (HRS.out _ sh.data.2.2))
          rintro e w1 ⟨rfl, hb⟩
          replace sh := sh.call hb; clear hb F; have F := sh.facts; simp only [Mem.Facts, Mem.CellsAt, Nat.reduceAdd] at F
          clear hr1
          go_wp2_with (first
              | ((with_reducible refine Mem.wpl_box sh ?_ ?_); exact rfl; clear sh; (try clear F); go_simp; intro b w1 sh; have F := sh.facts; simp only [Mem.Facts, Mem.CellsAt, Nat.reduceAdd] at F)
              | ((with_reducible refine Mem.wpl_alloc Try.z_sample sh ?_ ?_); exact rfl; clear sh; (try clear F); go_simp; intro b w1 sh; have F := sh.facts; simp only [Mem.Facts, Mem.CellsAt, Nat.reduceAdd] at F)
              | ((with_reducible refine Mem.atl_store ?_ ?_); exact rfl; (first | refine Mem.wp_store 0 sh rfl rfl rfl rfl (by kernel_rfl) (Nat.le_of_ble_eq_true rfl) rfl ?_ | refine Mem.wp_store 1 sh rfl rfl rfl rfl (by kernel_rfl) (Nat.le_of_ble_eq_true rfl) rfl ?_ | refine Mem.wp_store 2 sh rfl rfl rfl rfl (by kernel_rfl) (Nat.le_of_ble_eq_true rfl) rfl ?_ | refine Mem.wp_store 3 sh rfl rfl rfl rfl (by kernel_rfl) (Nat.le_of_ble_eq_true rfl) rfl ?_ | refine Mem.wp_store 4 sh rfl rfl rfl rfl (by kernel_rfl) (Nat.le_of_ble_eq_true rfl) rfl ?_ | refine Mem.wp_store 5 sh rfl rfl rfl rfl (by kernel_rfl) (Nat.le_of_ble_eq_true rfl) rfl ?_ | refine Mem.wp_store 6 sh rfl rfl rfl rfl (by kernel_rfl) (Nat.le_of_ble_eq_true rfl) rfl ?_); clear sh; (try clear F); go_simp; intro w1 sh; have F := sh.facts; simp only [Mem.Facts, Mem.CellsAt, Nat.reduceAdd] at F)
              | fail)
          go_fit (F2.out _ (HRS.out _ sh.data.2.2))
          rintro e w1 ⟨rfl, hb⟩
          replace sh := sh.call hb; clear hb F; have F := sh.facts; simp only [Mem.Facts, Mem.CellsAt, Nat.reduceAdd] at F
          go_wp2_with (first
              | ((with_reducible refine Mem.wpl_box sh ?_ ?_); exact rfl; clear sh; (try clear F); go_simp; intro b w1 sh; have F := sh.facts; simp only [Mem.Facts, Mem.CellsAt, Nat.reduceAdd] at F)
              | ((with_reducible refine Mem.wpl_alloc Try.z_sample sh ?_ ?_); exact rfl; clear sh; (try clear F); go_simp; intro b w1 sh; have F := sh.facts; simp only [Mem.Facts, Mem.CellsAt, Nat.reduceAdd] at F)
              | ((with_reducible refine Mem.atl_store ?_ ?_); exact rfl; (first | refine Mem.wp_store 0 sh rfl rfl rfl rfl (by kernel_rfl) (Nat.le_of_ble_eq_true rfl) rfl ?_ | refine Mem.wp_store 1 sh rfl rfl rfl rfl (by kernel_rfl) (Nat.le_of_ble_eq_true rfl) rfl ?_ | refine Mem.wp_store 2 sh rfl rfl rfl rfl (by kernel_rfl) (Nat.le_of_ble_eq_true rfl) rfl ?_ | refine Mem.wp_store 3 sh rfl rfl rfl rfl (by kernel_rfl) (Nat.le_of_ble_eq_true rfl) rfl ?_ | refine Mem.wp_store 4 sh rfl rfl rfl rfl (by kernel_rfl) (Nat.le_of_ble_eq_true rfl) rfl ?_ | refine Mem.wp_store 5 sh rfl rfl rfl rfl (by kernel_rfl) (Nat.le_of_ble_eq_true rfl) rfl ?_ | refine Mem.wp_store 6 sh rfl rfl rfl rfl (by kernel_rfl) (Nat.le_of_ble_eq_true rfl) rfl ?_); clear sh; (try clear F); go_simp; intro w1 sh; have F := sh.facts; simp only [Mem.Facts, Mem.CellsAt, Nat.reduceAdd] at F)
              | fail)
          go_ret
          exact ⟨rfl, sh.below⟩

end Go.Proofs.Ytkcpmghlndnfbaa
