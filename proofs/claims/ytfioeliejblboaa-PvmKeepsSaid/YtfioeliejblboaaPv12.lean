/-
  The walk of PvmKeeps.
-/
import Derived.Test.YtfioeliejblboaaPv10
import Derived.Test.YtfioeliejblboaaPvG
namespace Go.Proofs.Ytfioeliejblboaa
open Go.RowKit
set_option linter.unusedVariables false
set_option linter.unusedSimpArgs false
namespace PvP
/-- What a step changes: one word of its part, or none. -/
theorem step_one {code : List Int} {n : Nat} {b z : Int} {ws : List Int} {v : Vm} (hl : ws.length = n) :
    ∃ J : Nat, J ≤ n ∧ (∀ i, i < n → ((reg ws i != reg (step code n b z ws v).2 i) = decide (i = J))) ∧ (J < n → b ≤ J ∧ (J : Int) - b < z) ∧ ((step code n b z ws v).1.2.1 = 4 → (step code n b z ws v).1.1 = v ∧ J = n) := by
  have none : (step code n b z ws v).2 = ws → ((step code n b z ws v).1.2.1 = 4 → (step code n b z ws v).1.1 = v) → ∃ J : Nat, J ≤ n ∧ (∀ i, i < n → ((reg ws i != reg (step code n b z ws v).2 i) = decide (i = J))) ∧ (J < n → b ≤ J ∧ (J : Int) - b < z) ∧ ((step code n b z ws v).1.2.1 = 4 → (step code n b z ws v).1.1 = v ∧ J = n) := fun h h4 => by
    refine ⟨n, Nat.le_refl _, fun i hi => ?_, fun h => absurd h (Nat.lt_irrefl _), fun h => ⟨h4 h, rfl⟩⟩
    rw [h, decide_eq_false (by omega)]
    simp
  rcases step_keeps (code := code) (n := n) (b := b) (z := z) (ws := ws) (v := v) with ⟨h4, h⟩ | ⟨h4, j, x, h1, h2, h⟩
  · exact none h h4
  · by_cases hj : j < n ∧ reg ws j ≠ x
    · refine ⟨j, by omega, fun i hi => ?_, fun _ => ⟨h1, h2⟩, fun h => absurd h h4⟩
      rw [h]
      by_cases e : i = j
      · subst e
        rw [decide_eq_true rfl]
        unfold reg
        rw [List.getD_eq_getElem?_getD, List.getD_eq_getElem?_getD, List.getElem?_set_self (by omega), Option.getD_some, bne_iff_ne]
        have := hj.2
        unfold reg at this
        rwa [List.getD_eq_getElem?_getD] at this
      · rw [decide_eq_false e]
        unfold reg
        rw [List.getD_eq_getElem?_getD, List.getD_eq_getElem?_getD, List.getElem?_set_ne (fun h => e h.symm)]
        simp
    · refine none ?_ (fun h => absurd h h4)
      rw [h]
      by_cases hj2 : j < n
      · have hx : reg ws j = x := by
          rcases Int.lt_trichotomy (reg ws j) x with q | q | q
          · exact absurd ⟨hj2, by omega⟩ hj
          · exact q
          · exact absurd ⟨hj2, by omega⟩ hj
        rw [← hx]
        unfold reg
        rw [List.getD_eq_getElem?_getD, List.getElem?_eq_getElem (by omega), Option.getD_some, List.set_getElem_self]
      · rw [List.set_eq_of_length_le (by omega)]
end PvP

set_option maxHeartbeats 4000000 in
set_option maxRecDepth 100000 in
theorem pvmKeeps_walk (x : Int) (b z r : Int) (ks : Option Addr) (kn kc : Nat) (f ag : Int) (code : List Int) (pc : Int) (R : List Int) (fs : Option Addr) (l : List Int) (fn fc : Nat) (w : World) (hx : -9223372036854775808 ≤ x ∧ x ≤ 9223372036854775807) (hb : -9223372036854775808 ≤ b ∧ b ≤ 9223372036854775807) (hz : -9223372036854775808 ≤ z ∧ z ≤ 9223372036854775807) (hkn : kn = code.length) (hkc : kn ≤ kc) (hkl : kn ≤ 9223372036854775807) (hcode : ∀ c ∈ code, 0 ≤ c ∧ c ≤ 4294967295) (hv : PvP.VmB (pc, R)) (hfn : fn = l.length) (hfm : fn ≤ 9223372036854775807) (hl : PvP.WsB l) (hC : Hp.RdV w ks (ints code)) (hF : Hp.RdV w fs (ints l)) :
    Calls Try.prog 5 #[.int .i64 x, .agg #[.int .i64 b, .int .i64 z, .int .i64 r, .slice ks kn kc, .int .i64 f, .int .i64 ag], .agg (PvP.vmA (pc, R)), .slice fs fn fc] w fun e w' => e = .returned (.bool true) ∧ Below w.heap.size w w' := by
  have sh := (Hp.Sh.start ((RdV_rob hC).and (RdV_rob hF)) : Hp.Sh w w [] (fun W => Hp.RdV W ks (ints code) ∧ Hp.RdV W fs (ints l)))
  have K0 := Lib.hid (fun W => pran W)
  by_cases hok : x < 1 ∨ 4096 < x
  · have KM := Lib.hid (fun W => pmem_no x fs fn fc W hok)
    clear hok hv hcode hkn hfn hl hC hF
    go_enter Try.func5, Try.ntmps5
    have F := sh.facts; (try simp only [Hp.Facts, Hp.CellsAt, PvP.cellsAt_vm, Nat.reduceAdd, List.cons_append, List.nil_append] at F)
    go_wp2_with (first
        | ((first | (with_reducible refine Hp.wpl_box sh ?_ ?_) | (with_reducible refine Hp.wpl_alloc Try.z_vm sh ?_ ?_) | (with_reducible refine Hp.wpl_alloc Try.z_trap sh ?_ ?_) | (with_reducible refine Hp.wpl_alloc Try.z_insn sh ?_ ?_) | (with_reducible refine Hp.wpl_alloc Try.z_part sh ?_ ?_)); exact rfl; clear sh; (try clear F); go_simp; (first | intro b w1 sh); have F := sh.facts; (try simp only [Hp.Facts, Hp.CellsAt, PvP.cellsAt_vm, Nat.reduceAdd, List.cons_append, List.nil_append] at F))
        | ((with_reducible refine Hp.atl_store ?_ ?_); exact rfl; (first | refine Hp.wp_store 0 sh rfl rfl rfl rfl (by kernel_rfl) (Nat.le_of_ble_eq_true rfl) rfl ?_ | refine Hp.wp_store 1 sh rfl rfl rfl rfl (by kernel_rfl) (Nat.le_of_ble_eq_true rfl) rfl ?_ | refine Hp.wp_store 2 sh rfl rfl rfl rfl (by kernel_rfl) (Nat.le_of_ble_eq_true rfl) rfl ?_ | refine Hp.wp_store 3 sh rfl rfl rfl rfl (by kernel_rfl) (Nat.le_of_ble_eq_true rfl) rfl ?_ | refine Hp.wp_store 4 sh rfl rfl rfl rfl (by kernel_rfl) (Nat.le_of_ble_eq_true rfl) rfl ?_ | refine Hp.wp_store 5 sh rfl rfl rfl rfl (by kernel_rfl) (Nat.le_of_ble_eq_true rfl) rfl ?_ | refine Hp.wp_store 6 sh rfl rfl rfl rfl (by kernel_rfl) (Nat.le_of_ble_eq_true rfl) rfl ?_); clear sh; (try clear F); go_simp; intro w1 sh; have F := sh.facts; (try simp only [Hp.Facts, Hp.CellsAt, PvP.cellsAt_vm, Nat.reduceAdd, List.cons_append, List.nil_append] at F))
        | fail)
    go_fit (KM.out _)
    rintro e w1 ⟨rfl, hb⟩
    replace sh := sh.call hb; clear hb; (try clear F); have F := sh.facts; (try simp only [Hp.Facts, Hp.CellsAt, PvP.cellsAt_vm, Nat.reduceAdd, List.cons_append, List.nil_append] at F)
    go_wp2_with (first
        | ((first | (with_reducible refine Hp.wpl_box sh ?_ ?_) | (with_reducible refine Hp.wpl_alloc Try.z_vm sh ?_ ?_) | (with_reducible refine Hp.wpl_alloc Try.z_trap sh ?_ ?_) | (with_reducible refine Hp.wpl_alloc Try.z_insn sh ?_ ?_) | (with_reducible refine Hp.wpl_alloc Try.z_part sh ?_ ?_)); exact rfl; clear sh; (try clear F); go_simp; (first | intro b w1 sh); have F := sh.facts; (try simp only [Hp.Facts, Hp.CellsAt, PvP.cellsAt_vm, Nat.reduceAdd, List.cons_append, List.nil_append] at F))
        | ((with_reducible refine Hp.atl_store ?_ ?_); exact rfl; (first | refine Hp.wp_store 0 sh rfl rfl rfl rfl (by kernel_rfl) (Nat.le_of_ble_eq_true rfl) rfl ?_ | refine Hp.wp_store 1 sh rfl rfl rfl rfl (by kernel_rfl) (Nat.le_of_ble_eq_true rfl) rfl ?_ | refine Hp.wp_store 2 sh rfl rfl rfl rfl (by kernel_rfl) (Nat.le_of_ble_eq_true rfl) rfl ?_ | refine Hp.wp_store 3 sh rfl rfl rfl rfl (by kernel_rfl) (Nat.le_of_ble_eq_true rfl) rfl ?_ | refine Hp.wp_store 4 sh rfl rfl rfl rfl (by kernel_rfl) (Nat.le_of_ble_eq_true rfl) rfl ?_ | refine Hp.wp_store 5 sh rfl rfl rfl rfl (by kernel_rfl) (Nat.le_of_ble_eq_true rfl) rfl ?_ | refine Hp.wp_store 6 sh rfl rfl rfl rfl (by kernel_rfl) (Nat.le_of_ble_eq_true rfl) rfl ?_); clear sh; (try clear F); go_simp; intro w1 sh; have F := sh.facts; (try simp only [Hp.Facts, Hp.CellsAt, PvP.cellsAt_vm, Nat.reduceAdd, List.cons_append, List.nil_append] at F))
        | fail)
    go_fit (K0.out _)
    rintro e w1 ⟨rfl, hb⟩
    replace sh := sh.call hb; clear hb; (try clear F); have F := sh.facts; (try simp only [Hp.Facts, Hp.CellsAt, PvP.cellsAt_vm, Nat.reduceAdd, List.cons_append, List.nil_append] at F)
    go_wp2_with (first
        | ((first | (with_reducible refine Hp.wpl_box sh ?_ ?_) | (with_reducible refine Hp.wpl_alloc Try.z_vm sh ?_ ?_) | (with_reducible refine Hp.wpl_alloc Try.z_trap sh ?_ ?_) | (with_reducible refine Hp.wpl_alloc Try.z_insn sh ?_ ?_) | (with_reducible refine Hp.wpl_alloc Try.z_part sh ?_ ?_)); exact rfl; clear sh; (try clear F); go_simp; (first | intro b w1 sh); have F := sh.facts; (try simp only [Hp.Facts, Hp.CellsAt, PvP.cellsAt_vm, Nat.reduceAdd, List.cons_append, List.nil_append] at F))
        | ((with_reducible refine Hp.atl_store ?_ ?_); exact rfl; (first | refine Hp.wp_store 0 sh rfl rfl rfl rfl (by kernel_rfl) (Nat.le_of_ble_eq_true rfl) rfl ?_ | refine Hp.wp_store 1 sh rfl rfl rfl rfl (by kernel_rfl) (Nat.le_of_ble_eq_true rfl) rfl ?_ | refine Hp.wp_store 2 sh rfl rfl rfl rfl (by kernel_rfl) (Nat.le_of_ble_eq_true rfl) rfl ?_ | refine Hp.wp_store 3 sh rfl rfl rfl rfl (by kernel_rfl) (Nat.le_of_ble_eq_true rfl) rfl ?_ | refine Hp.wp_store 4 sh rfl rfl rfl rfl (by kernel_rfl) (Nat.le_of_ble_eq_true rfl) rfl ?_ | refine Hp.wp_store 5 sh rfl rfl rfl rfl (by kernel_rfl) (Nat.le_of_ble_eq_true rfl) rfl ?_ | refine Hp.wp_store 6 sh rfl rfl rfl rfl (by kernel_rfl) (Nat.le_of_ble_eq_true rfl) rfl ?_); clear sh; (try clear F); go_simp; intro w1 sh; have F := sh.facts; (try simp only [Hp.Facts, Hp.CellsAt, PvP.cellsAt_vm, Nat.reduceAdd, List.cons_append, List.nil_append] at F))
        | fail)
    go_ret
    exact ⟨rfl, sh.below⟩
  · obtain ⟨n, rfl⟩ := Int.eq_ofNat_of_zero_le (show 0 ≤ x by omega)
    have h1 : 1 ≤ n := by omega
    have h2 : n ≤ 4096 := by omega
    have KM := Lib.hid (fun W H D sh hF => pmem_yes n fs l fn fc w W H D sh h1 h2 hF hfn hfm)
    have KB := Lib.hid (fun W => pbig b z r ks kn kc f ag fs fn fc hkl hfm W)
    have hR : R.length = 8 := hv.2.1
    obtain ⟨ws, hws⟩ : ∃ ws, PvP.firstW n l = ws := ⟨_, rfl⟩
    have hwl : ws.length = n := by rw [← hws]; exact first_len
    have hwb : PvP.WsB ws := by rw [← hws]; exact first_b hl
    rw [hws] at KM
    clear hok hws hC hF hl hfn hx
    by_cases hbig : 1000 < kn ∨ 5000 < fn
    · rw [decide_eq_true hbig] at KB
      clear hbig hv hcode hkn hwl hwb
      go_enter Try.func5, Try.ntmps5
      have F := sh.facts; (try simp only [Hp.Facts, Hp.CellsAt, PvP.cellsAt_vm, Nat.reduceAdd, List.cons_append, List.nil_append] at F)
      have tok_bp : True := trivial
      have tok_bv : True := trivial
      go_wp2_with (first
          | ((first | (with_reducible refine Hp.wpl_box sh ?_ ?_) | (with_reducible refine Hp.wpl_alloc Try.z_vm sh ?_ ?_) | (with_reducible refine Hp.wpl_alloc Try.z_trap sh ?_ ?_) | (with_reducible refine Hp.wpl_alloc Try.z_insn sh ?_ ?_) | (with_reducible refine Hp.wpl_alloc Try.z_part sh ?_ ?_)); exact rfl; clear sh; (try clear F); go_simp; (first | (have tok := tok_bp; clear tok tok_bp; intro bp w1 sh) | (have tok := tok_bv; clear tok tok_bv; intro bv w1 sh) | intro b w1 sh); have F := sh.facts; (try simp only [Hp.Facts, Hp.CellsAt, PvP.cellsAt_vm, Nat.reduceAdd, List.cons_append, List.nil_append] at F))
          | ((with_reducible refine Hp.atl_store ?_ ?_); exact rfl; (first | refine Hp.wp_store 0 sh rfl rfl rfl rfl (by kernel_rfl) (Nat.le_of_ble_eq_true rfl) rfl ?_ | refine Hp.wp_store 1 sh rfl rfl rfl rfl (by kernel_rfl) (Nat.le_of_ble_eq_true rfl) rfl ?_ | refine Hp.wp_store 2 sh rfl rfl rfl rfl (by kernel_rfl) (Nat.le_of_ble_eq_true rfl) rfl ?_ | refine Hp.wp_store 3 sh rfl rfl rfl rfl (by kernel_rfl) (Nat.le_of_ble_eq_true rfl) rfl ?_ | refine Hp.wp_store 4 sh rfl rfl rfl rfl (by kernel_rfl) (Nat.le_of_ble_eq_true rfl) rfl ?_ | refine Hp.wp_store 5 sh rfl rfl rfl rfl (by kernel_rfl) (Nat.le_of_ble_eq_true rfl) rfl ?_ | refine Hp.wp_store 6 sh rfl rfl rfl rfl (by kernel_rfl) (Nat.le_of_ble_eq_true rfl) rfl ?_); clear sh; (try clear F); go_simp; intro w1 sh; have F := sh.facts; (try simp only [Hp.Facts, Hp.CellsAt, PvP.cellsAt_vm, Nat.reduceAdd, List.cons_append, List.nil_append] at F))
          | fail)
      go_fit (KM.out _ _ _ sh (fun W q => q.2))
      clear sh F
      rintro e w1 ⟨bm, g, bn, h, rfl, sh⟩
      have F := sh.facts; (try simp only [Hp.Facts, Hp.CellsAt, PvP.cellsAt_vm, Nat.reduceAdd, List.cons_append, List.nil_append] at F)
      go_wp2_with (first
          | ((first | (with_reducible refine Hp.wpl_box sh ?_ ?_) | (with_reducible refine Hp.wpl_alloc Try.z_vm sh ?_ ?_) | (with_reducible refine Hp.wpl_alloc Try.z_trap sh ?_ ?_) | (with_reducible refine Hp.wpl_alloc Try.z_insn sh ?_ ?_) | (with_reducible refine Hp.wpl_alloc Try.z_part sh ?_ ?_)); exact rfl; clear sh; (try clear F); go_simp; (first | intro b w1 sh); have F := sh.facts; (try simp only [Hp.Facts, Hp.CellsAt, PvP.cellsAt_vm, Nat.reduceAdd, List.cons_append, List.nil_append] at F))
          | ((with_reducible refine Hp.atl_store ?_ ?_); exact rfl; (first | refine Hp.wp_store 0 sh rfl rfl rfl rfl (by kernel_rfl) (Nat.le_of_ble_eq_true rfl) rfl ?_ | refine Hp.wp_store 1 sh rfl rfl rfl rfl (by kernel_rfl) (Nat.le_of_ble_eq_true rfl) rfl ?_ | refine Hp.wp_store 2 sh rfl rfl rfl rfl (by kernel_rfl) (Nat.le_of_ble_eq_true rfl) rfl ?_ | refine Hp.wp_store 3 sh rfl rfl rfl rfl (by kernel_rfl) (Nat.le_of_ble_eq_true rfl) rfl ?_ | refine Hp.wp_store 4 sh rfl rfl rfl rfl (by kernel_rfl) (Nat.le_of_ble_eq_true rfl) rfl ?_ | refine Hp.wp_store 5 sh rfl rfl rfl rfl (by kernel_rfl) (Nat.le_of_ble_eq_true rfl) rfl ?_ | refine Hp.wp_store 6 sh rfl rfl rfl rfl (by kernel_rfl) (Nat.le_of_ble_eq_true rfl) rfl ?_); clear sh; (try clear F); go_simp; intro w1 sh; have F := sh.facts; (try simp only [Hp.Facts, Hp.CellsAt, PvP.cellsAt_vm, Nat.reduceAdd, List.cons_append, List.nil_append] at F))
          | fail)
      go_fit (KB.out _)
      rintro e w1 ⟨rfl, hb⟩
      replace sh := sh.call hb; clear hb; (try clear F); have F := sh.facts; (try simp only [Hp.Facts, Hp.CellsAt, PvP.cellsAt_vm, Nat.reduceAdd, List.cons_append, List.nil_append] at F)
      go_wp2_with (first
          | ((first | (with_reducible refine Hp.wpl_box sh ?_ ?_) | (with_reducible refine Hp.wpl_alloc Try.z_vm sh ?_ ?_) | (with_reducible refine Hp.wpl_alloc Try.z_trap sh ?_ ?_) | (with_reducible refine Hp.wpl_alloc Try.z_insn sh ?_ ?_) | (with_reducible refine Hp.wpl_alloc Try.z_part sh ?_ ?_)); exact rfl; clear sh; (try clear F); go_simp; (first | intro b w1 sh); have F := sh.facts; (try simp only [Hp.Facts, Hp.CellsAt, PvP.cellsAt_vm, Nat.reduceAdd, List.cons_append, List.nil_append] at F))
          | ((with_reducible refine Hp.atl_store ?_ ?_); exact rfl; (first | refine Hp.wp_store 0 sh rfl rfl rfl rfl (by kernel_rfl) (Nat.le_of_ble_eq_true rfl) rfl ?_ | refine Hp.wp_store 1 sh rfl rfl rfl rfl (by kernel_rfl) (Nat.le_of_ble_eq_true rfl) rfl ?_ | refine Hp.wp_store 2 sh rfl rfl rfl rfl (by kernel_rfl) (Nat.le_of_ble_eq_true rfl) rfl ?_ | refine Hp.wp_store 3 sh rfl rfl rfl rfl (by kernel_rfl) (Nat.le_of_ble_eq_true rfl) rfl ?_ | refine Hp.wp_store 4 sh rfl rfl rfl rfl (by kernel_rfl) (Nat.le_of_ble_eq_true rfl) rfl ?_ | refine Hp.wp_store 5 sh rfl rfl rfl rfl (by kernel_rfl) (Nat.le_of_ble_eq_true rfl) rfl ?_ | refine Hp.wp_store 6 sh rfl rfl rfl rfl (by kernel_rfl) (Nat.le_of_ble_eq_true rfl) rfl ?_); clear sh; (try clear F); go_simp; intro w1 sh; have F := sh.facts; (try simp only [Hp.Facts, Hp.CellsAt, PvP.cellsAt_vm, Nat.reduceAdd, List.cons_append, List.nil_append] at F))
          | fail)
      go_fit (K0.out _)
      rintro e w1 ⟨rfl, hb⟩
      replace sh := sh.call hb; clear hb; (try clear F); have F := sh.facts; (try simp only [Hp.Facts, Hp.CellsAt, PvP.cellsAt_vm, Nat.reduceAdd, List.cons_append, List.nil_append] at F)
      go_wp2_with (first
          | ((first | (with_reducible refine Hp.wpl_box sh ?_ ?_) | (with_reducible refine Hp.wpl_alloc Try.z_vm sh ?_ ?_) | (with_reducible refine Hp.wpl_alloc Try.z_trap sh ?_ ?_) | (with_reducible refine Hp.wpl_alloc Try.z_insn sh ?_ ?_) | (with_reducible refine Hp.wpl_alloc Try.z_part sh ?_ ?_)); exact rfl; clear sh; (try clear F); go_simp; (first | intro b w1 sh); have F := sh.facts; (try simp only [Hp.Facts, Hp.CellsAt, PvP.cellsAt_vm, Nat.reduceAdd, List.cons_append, List.nil_append] at F))
          | ((with_reducible refine Hp.atl_store ?_ ?_); exact rfl; (first | refine Hp.wp_store 0 sh rfl rfl rfl rfl (by kernel_rfl) (Nat.le_of_ble_eq_true rfl) rfl ?_ | refine Hp.wp_store 1 sh rfl rfl rfl rfl (by kernel_rfl) (Nat.le_of_ble_eq_true rfl) rfl ?_ | refine Hp.wp_store 2 sh rfl rfl rfl rfl (by kernel_rfl) (Nat.le_of_ble_eq_true rfl) rfl ?_ | refine Hp.wp_store 3 sh rfl rfl rfl rfl (by kernel_rfl) (Nat.le_of_ble_eq_true rfl) rfl ?_ | refine Hp.wp_store 4 sh rfl rfl rfl rfl (by kernel_rfl) (Nat.le_of_ble_eq_true rfl) rfl ?_ | refine Hp.wp_store 5 sh rfl rfl rfl rfl (by kernel_rfl) (Nat.le_of_ble_eq_true rfl) rfl ?_ | refine Hp.wp_store 6 sh rfl rfl rfl rfl (by kernel_rfl) (Nat.le_of_ble_eq_true rfl) rfl ?_); clear sh; (try clear F); go_simp; intro w1 sh; have F := sh.facts; (try simp only [Hp.Facts, Hp.CellsAt, PvP.cellsAt_vm, Nat.reduceAdd, List.cons_append, List.nil_append] at F))
          | fail)
      go_ret
      exact ⟨rfl, sh.below⟩
    · have hk3 : kn ≤ 1000 := by omega
      rw [decide_eq_false hbig] at KB
      clear hbig hfm hkl
      have KS := Lib.hid (fun bm g W H D sh q1 q2 => pstep bm g n ws b z r ks kn kc f ag code pc R w W H D sh q1 (by omega) hwl hb hz hkn hkc (by omega) q2 hv.1 hR (PvP.regs hv) hcode)
      have hok := PvP.step_ok (code := code) (b := b) (z := z) hv hwb hwl (by omega)
      obtain ⟨J, j1, j2, j3, j4⟩ := PvP.step_one (code := code) (b := b) (z := z) (v := (pc, R)) hwl
      obtain ⟨⟨⟨⟨pc2, R2⟩, tk, tn⟩, ws2⟩, hX⟩ : ∃ X, PvP.step code n b z ws (pc, R) = X := ⟨_, rfl⟩
      rw [hX] at KS hok j2 j4
      dsimp only [PvP.StepP] at KS
      dsimp only at j2 j4
      have hR2 : R2.length = 8 := hok.1.2.1
      have hw2 : ws2.length = n := hok.2.2.1
      have KV := Lib.hid (fun bm g W q1 q2 => pview bm g n ws W h1 h2 q1 hwl q2)
      have KV2 := Lib.hid (fun bm g W q1 q2 => pview bm g n ws2 W h1 h2 q1 hw2 q2)
      have J2 := Lib.hid j2
      have J3 := Lib.hid j3
      have J4 := Lib.hid j4
      have HW := Lib.hid hwl
      have HW2 := Lib.hid hw2
      have hl1 : ((n : Int) != (n : Int)) = false := by simp
      clear hX hok hv hcode hkn hwl hwb hw2 j2 j3 j4
      go_enter Try.func5, Try.ntmps5
      have F := sh.facts; (try simp only [Hp.Facts, Hp.CellsAt, PvP.cellsAt_vm, Nat.reduceAdd, List.cons_append, List.nil_append] at F)
      have tok_bp : True := trivial
      have tok_bv : True := trivial
      go_wp2_with (first
          | ((first | (with_reducible refine Hp.wpl_box sh ?_ ?_) | (with_reducible refine Hp.wpl_alloc Try.z_vm sh ?_ ?_) | (with_reducible refine Hp.wpl_alloc Try.z_trap sh ?_ ?_) | (with_reducible refine Hp.wpl_alloc Try.z_insn sh ?_ ?_) | (with_reducible refine Hp.wpl_alloc Try.z_part sh ?_ ?_)); exact rfl; clear sh; (try clear F); go_simp; (first | (have tok := tok_bp; clear tok tok_bp; intro bp w1 sh) | (have tok := tok_bv; clear tok tok_bv; intro bv w1 sh) | intro b w1 sh); have F := sh.facts; (try simp only [Hp.Facts, Hp.CellsAt, PvP.cellsAt_vm, Nat.reduceAdd, List.cons_append, List.nil_append] at F))
          | ((with_reducible refine Hp.atl_store ?_ ?_); exact rfl; (first | refine Hp.wp_store 0 sh rfl rfl rfl rfl (by kernel_rfl) (Nat.le_of_ble_eq_true rfl) rfl ?_ | refine Hp.wp_store 1 sh rfl rfl rfl rfl (by kernel_rfl) (Nat.le_of_ble_eq_true rfl) rfl ?_ | refine Hp.wp_store 2 sh rfl rfl rfl rfl (by kernel_rfl) (Nat.le_of_ble_eq_true rfl) rfl ?_ | refine Hp.wp_store 3 sh rfl rfl rfl rfl (by kernel_rfl) (Nat.le_of_ble_eq_true rfl) rfl ?_ | refine Hp.wp_store 4 sh rfl rfl rfl rfl (by kernel_rfl) (Nat.le_of_ble_eq_true rfl) rfl ?_ | refine Hp.wp_store 5 sh rfl rfl rfl rfl (by kernel_rfl) (Nat.le_of_ble_eq_true rfl) rfl ?_ | refine Hp.wp_store 6 sh rfl rfl rfl rfl (by kernel_rfl) (Nat.le_of_ble_eq_true rfl) rfl ?_); clear sh; (try clear F); go_simp; intro w1 sh; have F := sh.facts; (try simp only [Hp.Facts, Hp.CellsAt, PvP.cellsAt_vm, Nat.reduceAdd, List.cons_append, List.nil_append] at F))
          | fail)
      go_fit (KM.out _ _ _ sh (fun W q => q.2))
      clear sh F KM
      rintro e w1 ⟨bm, g, bn, h, rfl, sh⟩
      have F := sh.facts; (try simp only [Hp.Facts, Hp.CellsAt, PvP.cellsAt_vm, Nat.reduceAdd, List.cons_append, List.nil_append] at F)
      go_wp2_with (first
          | ((first | (with_reducible refine Hp.wpl_box sh ?_ ?_) | (with_reducible refine Hp.wpl_alloc Try.z_vm sh ?_ ?_) | (with_reducible refine Hp.wpl_alloc Try.z_trap sh ?_ ?_) | (with_reducible refine Hp.wpl_alloc Try.z_insn sh ?_ ?_) | (with_reducible refine Hp.wpl_alloc Try.z_part sh ?_ ?_)); exact rfl; clear sh; (try clear F); go_simp; (first | intro b w1 sh); have F := sh.facts; (try simp only [Hp.Facts, Hp.CellsAt, PvP.cellsAt_vm, Nat.reduceAdd, List.cons_append, List.nil_append] at F))
          | ((with_reducible refine Hp.atl_store ?_ ?_); exact rfl; (first | refine Hp.wp_store 0 sh rfl rfl rfl rfl (by kernel_rfl) (Nat.le_of_ble_eq_true rfl) rfl ?_ | refine Hp.wp_store 1 sh rfl rfl rfl rfl (by kernel_rfl) (Nat.le_of_ble_eq_true rfl) rfl ?_ | refine Hp.wp_store 2 sh rfl rfl rfl rfl (by kernel_rfl) (Nat.le_of_ble_eq_true rfl) rfl ?_ | refine Hp.wp_store 3 sh rfl rfl rfl rfl (by kernel_rfl) (Nat.le_of_ble_eq_true rfl) rfl ?_ | refine Hp.wp_store 4 sh rfl rfl rfl rfl (by kernel_rfl) (Nat.le_of_ble_eq_true rfl) rfl ?_ | refine Hp.wp_store 5 sh rfl rfl rfl rfl (by kernel_rfl) (Nat.le_of_ble_eq_true rfl) rfl ?_ | refine Hp.wp_store 6 sh rfl rfl rfl rfl (by kernel_rfl) (Nat.le_of_ble_eq_true rfl) rfl ?_); clear sh; (try clear F); go_simp; intro w1 sh; have F := sh.facts; (try simp only [Hp.Facts, Hp.CellsAt, PvP.cellsAt_vm, Nat.reduceAdd, List.cons_append, List.nil_append] at F))
          | fail)
      go_fit (KB.out _)
      rintro e w1 ⟨rfl, hb⟩
      replace sh := sh.call hb; clear hb; (try clear F); have F := sh.facts; (try simp only [Hp.Facts, Hp.CellsAt, PvP.cellsAt_vm, Nat.reduceAdd, List.cons_append, List.nil_append] at F)
      clear KB
      have tok_ball : True := trivial
      go_wp2_with (first
          | ((with_reducible refine Hp.atl_load 28 ?_); (first | refine PvP.ldv 0 rfl sh rfl rfl rfl rfl ?_ ?_ | refine PvP.ldv 1 rfl sh rfl rfl rfl rfl ?_ ?_ | refine PvP.ldv 2 rfl sh rfl rfl rfl rfl ?_ ?_ | refine PvP.ldv 3 rfl sh rfl rfl rfl rfl ?_ ?_ | refine PvP.ldv 4 rfl sh rfl rfl rfl rfl ?_ ?_ | refine PvP.ldv 5 rfl sh rfl rfl rfl rfl ?_ ?_ | refine PvP.ldv 6 rfl sh rfl rfl rfl rfl ?_ ?_ | refine PvP.ldv 7 rfl sh rfl rfl rfl rfl ?_ ?_ | refine PvP.ldv 8 rfl sh rfl rfl rfl rfl ?_ ?_); (simp only [List.length_set, hR, PvP.zero8_len]); go_simp)
          | ((with_reducible refine Hp.atl_store ?_ ?_); exact rfl; (first | refine PvP.stv 0 rfl sh rfl rfl rfl rfl ?_ ?_ ?_ | refine PvP.stv 1 rfl sh rfl rfl rfl rfl ?_ ?_ ?_ | refine PvP.stv 2 rfl sh rfl rfl rfl rfl ?_ ?_ ?_ | refine PvP.stv 3 rfl sh rfl rfl rfl rfl ?_ ?_ ?_ | refine PvP.stv 4 rfl sh rfl rfl rfl rfl ?_ ?_ ?_ | refine PvP.stv 5 rfl sh rfl rfl rfl rfl ?_ ?_ ?_ | refine PvP.stv 6 rfl sh rfl rfl rfl rfl ?_ ?_ ?_ | refine PvP.stv 7 rfl sh rfl rfl rfl rfl ?_ ?_ ?_ | refine PvP.stv 8 rfl sh rfl rfl rfl rfl ?_ ?_ ?_); (simp only [List.length_set, hR, PvP.zero8_len]); (simp only [List.length_set, hR, PvP.zero8_len]); clear sh; (try clear F); go_simp; intro w1 sh; (have F := sh.facts; (try simp only [Hp.Facts, Hp.CellsAt, PvP.cellsAt_vm, Nat.reduceAdd, List.cons_append, List.nil_append] at F)))
          | ((with_reducible refine Hp.atl_store ?_ ?_); exact rfl; (first | refine PvP.stp 0 rfl sh rfl rfl rfl rfl ?_ | refine PvP.stp 1 rfl sh rfl rfl rfl rfl ?_ | refine PvP.stp 2 rfl sh rfl rfl rfl rfl ?_ | refine PvP.stp 3 rfl sh rfl rfl rfl rfl ?_ | refine PvP.stp 4 rfl sh rfl rfl rfl rfl ?_ | refine PvP.stp 5 rfl sh rfl rfl rfl rfl ?_ | refine PvP.stp 6 rfl sh rfl rfl rfl rfl ?_ | refine PvP.stp 7 rfl sh rfl rfl rfl rfl ?_ | refine PvP.stp 8 rfl sh rfl rfl rfl rfl ?_); clear sh; (try clear F); go_simp; intro w1 sh; (have F := sh.facts; (try simp only [Hp.Facts, Hp.CellsAt, PvP.cellsAt_vm, Nat.reduceAdd, List.cons_append, List.nil_append] at F)))
          | ((first | (with_reducible refine Hp.wpl_box sh ?_ ?_) | (with_reducible refine Hp.wpl_alloc Try.z_vm sh ?_ ?_) | (with_reducible refine Hp.wpl_alloc Try.z_trap sh ?_ ?_) | (with_reducible refine Hp.wpl_alloc Try.z_insn sh ?_ ?_) | (with_reducible refine Hp.wpl_alloc Try.z_part sh ?_ ?_)); exact rfl; clear sh; (try clear F); go_simp; (first | (have tok := tok_ball; clear tok tok_ball; intro ball w1 sh) | intro b w1 sh); have F := sh.facts; (try simp only [Hp.Facts, Hp.CellsAt, PvP.cellsAt_vm, Nat.reduceAdd, List.cons_append, List.nil_append] at F))
          | ((with_reducible refine Hp.atl_store ?_ ?_); exact rfl; (first | refine Hp.wp_store 0 sh rfl rfl rfl rfl (by kernel_rfl) (Nat.le_of_ble_eq_true rfl) rfl ?_ | refine Hp.wp_store 1 sh rfl rfl rfl rfl (by kernel_rfl) (Nat.le_of_ble_eq_true rfl) rfl ?_ | refine Hp.wp_store 2 sh rfl rfl rfl rfl (by kernel_rfl) (Nat.le_of_ble_eq_true rfl) rfl ?_ | refine Hp.wp_store 3 sh rfl rfl rfl rfl (by kernel_rfl) (Nat.le_of_ble_eq_true rfl) rfl ?_ | refine Hp.wp_store 4 sh rfl rfl rfl rfl (by kernel_rfl) (Nat.le_of_ble_eq_true rfl) rfl ?_ | refine Hp.wp_store 5 sh rfl rfl rfl rfl (by kernel_rfl) (Nat.le_of_ble_eq_true rfl) rfl ?_ | refine Hp.wp_store 6 sh rfl rfl rfl rfl (by kernel_rfl) (Nat.le_of_ble_eq_true rfl) rfl ?_); clear sh; (try clear F); go_simp; intro w1 sh; have F := sh.facts; (try simp only [Hp.Facts, Hp.CellsAt, PvP.cellsAt_vm, Nat.reduceAdd, List.cons_append, List.nil_append] at F))
          | fail)
      go_fit (KV.out bm g _ sh.data.1 (PvP.own_rdv sh 1 rfl))
      rintro e w1 ⟨s1, c1, rfl, hn9, hr9, hb9⟩
      replace sh := Hp.gain sh hb9 hn9 hr9
      clear hn9 hr9 hb9 KV
      (try clear F); (have F := sh.facts; (try simp only [Hp.Facts, Hp.CellsAt, PvP.cellsAt_vm, Nat.reduceAdd, List.cons_append, List.nil_append] at F))
      go_wp2_with (first
          | ((with_reducible refine Hp.atl_load 28 ?_); (first | refine PvP.ldv 0 rfl sh rfl rfl rfl rfl ?_ ?_ | refine PvP.ldv 1 rfl sh rfl rfl rfl rfl ?_ ?_ | refine PvP.ldv 2 rfl sh rfl rfl rfl rfl ?_ ?_ | refine PvP.ldv 3 rfl sh rfl rfl rfl rfl ?_ ?_ | refine PvP.ldv 4 rfl sh rfl rfl rfl rfl ?_ ?_ | refine PvP.ldv 5 rfl sh rfl rfl rfl rfl ?_ ?_ | refine PvP.ldv 6 rfl sh rfl rfl rfl rfl ?_ ?_ | refine PvP.ldv 7 rfl sh rfl rfl rfl rfl ?_ ?_ | refine PvP.ldv 8 rfl sh rfl rfl rfl rfl ?_ ?_); (simp only [List.length_set, hR, PvP.zero8_len]); go_simp)
          | ((with_reducible refine Hp.atl_store ?_ ?_); exact rfl; (first | refine PvP.stv 0 rfl sh rfl rfl rfl rfl ?_ ?_ ?_ | refine PvP.stv 1 rfl sh rfl rfl rfl rfl ?_ ?_ ?_ | refine PvP.stv 2 rfl sh rfl rfl rfl rfl ?_ ?_ ?_ | refine PvP.stv 3 rfl sh rfl rfl rfl rfl ?_ ?_ ?_ | refine PvP.stv 4 rfl sh rfl rfl rfl rfl ?_ ?_ ?_ | refine PvP.stv 5 rfl sh rfl rfl rfl rfl ?_ ?_ ?_ | refine PvP.stv 6 rfl sh rfl rfl rfl rfl ?_ ?_ ?_ | refine PvP.stv 7 rfl sh rfl rfl rfl rfl ?_ ?_ ?_ | refine PvP.stv 8 rfl sh rfl rfl rfl rfl ?_ ?_ ?_); (simp only [List.length_set, hR, PvP.zero8_len]); (simp only [List.length_set, hR, PvP.zero8_len]); clear sh; (try clear F); go_simp; intro w1 sh; (have F := sh.facts; (try simp only [Hp.Facts, Hp.CellsAt, PvP.cellsAt_vm, Nat.reduceAdd, List.cons_append, List.nil_append] at F)))
          | ((with_reducible refine Hp.atl_store ?_ ?_); exact rfl; (first | refine PvP.stp 0 rfl sh rfl rfl rfl rfl ?_ | refine PvP.stp 1 rfl sh rfl rfl rfl rfl ?_ | refine PvP.stp 2 rfl sh rfl rfl rfl rfl ?_ | refine PvP.stp 3 rfl sh rfl rfl rfl rfl ?_ | refine PvP.stp 4 rfl sh rfl rfl rfl rfl ?_ | refine PvP.stp 5 rfl sh rfl rfl rfl rfl ?_ | refine PvP.stp 6 rfl sh rfl rfl rfl rfl ?_ | refine PvP.stp 7 rfl sh rfl rfl rfl rfl ?_ | refine PvP.stp 8 rfl sh rfl rfl rfl rfl ?_); clear sh; (try clear F); go_simp; intro w1 sh; (have F := sh.facts; (try simp only [Hp.Facts, Hp.CellsAt, PvP.cellsAt_vm, Nat.reduceAdd, List.cons_append, List.nil_append] at F)))
          | ((first | (with_reducible refine Hp.wpl_box sh ?_ ?_) | (with_reducible refine Hp.wpl_alloc Try.z_vm sh ?_ ?_) | (with_reducible refine Hp.wpl_alloc Try.z_trap sh ?_ ?_) | (with_reducible refine Hp.wpl_alloc Try.z_insn sh ?_ ?_) | (with_reducible refine Hp.wpl_alloc Try.z_part sh ?_ ?_)); exact rfl; clear sh; (try clear F); go_simp; (first | intro b w1 sh); have F := sh.facts; (try simp only [Hp.Facts, Hp.CellsAt, PvP.cellsAt_vm, Nat.reduceAdd, List.cons_append, List.nil_append] at F))
          | ((with_reducible refine Hp.atl_store ?_ ?_); exact rfl; (first | refine Hp.wp_store 0 sh rfl rfl rfl rfl (by kernel_rfl) (Nat.le_of_ble_eq_true rfl) rfl ?_ | refine Hp.wp_store 1 sh rfl rfl rfl rfl (by kernel_rfl) (Nat.le_of_ble_eq_true rfl) rfl ?_ | refine Hp.wp_store 2 sh rfl rfl rfl rfl (by kernel_rfl) (Nat.le_of_ble_eq_true rfl) rfl ?_ | refine Hp.wp_store 3 sh rfl rfl rfl rfl (by kernel_rfl) (Nat.le_of_ble_eq_true rfl) rfl ?_ | refine Hp.wp_store 4 sh rfl rfl rfl rfl (by kernel_rfl) (Nat.le_of_ble_eq_true rfl) rfl ?_ | refine Hp.wp_store 5 sh rfl rfl rfl rfl (by kernel_rfl) (Nat.le_of_ble_eq_true rfl) rfl ?_ | refine Hp.wp_store 6 sh rfl rfl rfl rfl (by kernel_rfl) (Nat.le_of_ble_eq_true rfl) rfl ?_); clear sh; (try clear F); go_simp; intro w1 sh; have F := sh.facts; (try simp only [Hp.Facts, Hp.CellsAt, PvP.cellsAt_vm, Nat.reduceAdd, List.cons_append, List.nil_append] at F))
          | fail)
      replace sh : Hp.Sh w _ (_ :: _ :: _ :: _ :: _ :: []) _ := sh.perm (List.perm_middle (l₁ := [_]))
      go_fit (KS.out bm g _ _ _ sh (fun W q => q.2.1) (fun W q => q.2.2.2.1))
      clear sh F
      rintro e w1 ⟨rfl, sh⟩
      have F := sh.facts; (try simp only [Hp.Facts, Hp.CellsAt, PvP.cellsAt_vm, Nat.reduceAdd, List.cons_append, List.nil_append] at F)
      have tok_b13 : True := trivial
      have tok_b14 : True := trivial
      go_wp2_with (first
          | ((with_reducible refine Hp.atl_load 28 ?_); (first | refine PvP.ldv 0 rfl sh rfl rfl rfl rfl ?_ ?_ | refine PvP.ldv 1 rfl sh rfl rfl rfl rfl ?_ ?_ | refine PvP.ldv 2 rfl sh rfl rfl rfl rfl ?_ ?_ | refine PvP.ldv 3 rfl sh rfl rfl rfl rfl ?_ ?_ | refine PvP.ldv 4 rfl sh rfl rfl rfl rfl ?_ ?_ | refine PvP.ldv 5 rfl sh rfl rfl rfl rfl ?_ ?_ | refine PvP.ldv 6 rfl sh rfl rfl rfl rfl ?_ ?_ | refine PvP.ldv 7 rfl sh rfl rfl rfl rfl ?_ ?_ | refine PvP.ldv 8 rfl sh rfl rfl rfl rfl ?_ ?_); (simp only [List.length_set, hR, hR2, PvP.zero8_len]); go_simp)
          | ((with_reducible refine Hp.atl_store ?_ ?_); exact rfl; (first | refine PvP.stv 0 rfl sh rfl rfl rfl rfl ?_ ?_ ?_ | refine PvP.stv 1 rfl sh rfl rfl rfl rfl ?_ ?_ ?_ | refine PvP.stv 2 rfl sh rfl rfl rfl rfl ?_ ?_ ?_ | refine PvP.stv 3 rfl sh rfl rfl rfl rfl ?_ ?_ ?_ | refine PvP.stv 4 rfl sh rfl rfl rfl rfl ?_ ?_ ?_ | refine PvP.stv 5 rfl sh rfl rfl rfl rfl ?_ ?_ ?_ | refine PvP.stv 6 rfl sh rfl rfl rfl rfl ?_ ?_ ?_ | refine PvP.stv 7 rfl sh rfl rfl rfl rfl ?_ ?_ ?_ | refine PvP.stv 8 rfl sh rfl rfl rfl rfl ?_ ?_ ?_); (simp only [List.length_set, hR, hR2, PvP.zero8_len]); (simp only [List.length_set, hR, hR2, PvP.zero8_len]); clear sh; (try clear F); go_simp; intro w1 sh; (have F := sh.facts; (try simp only [Hp.Facts, Hp.CellsAt, PvP.cellsAt_vm, Nat.reduceAdd, List.cons_append, List.nil_append] at F)))
          | ((with_reducible refine Hp.atl_store ?_ ?_); exact rfl; (first | refine PvP.stp 0 rfl sh rfl rfl rfl rfl ?_ | refine PvP.stp 1 rfl sh rfl rfl rfl rfl ?_ | refine PvP.stp 2 rfl sh rfl rfl rfl rfl ?_ | refine PvP.stp 3 rfl sh rfl rfl rfl rfl ?_ | refine PvP.stp 4 rfl sh rfl rfl rfl rfl ?_ | refine PvP.stp 5 rfl sh rfl rfl rfl rfl ?_ | refine PvP.stp 6 rfl sh rfl rfl rfl rfl ?_ | refine PvP.stp 7 rfl sh rfl rfl rfl rfl ?_ | refine PvP.stp 8 rfl sh rfl rfl rfl rfl ?_); clear sh; (try clear F); go_simp; intro w1 sh; (have F := sh.facts; (try simp only [Hp.Facts, Hp.CellsAt, PvP.cellsAt_vm, Nat.reduceAdd, List.cons_append, List.nil_append] at F)))
          | ((first | (with_reducible refine Hp.wpl_box sh ?_ ?_) | (with_reducible refine Hp.wpl_alloc Try.z_vm sh ?_ ?_) | (with_reducible refine Hp.wpl_alloc Try.z_trap sh ?_ ?_) | (with_reducible refine Hp.wpl_alloc Try.z_insn sh ?_ ?_) | (with_reducible refine Hp.wpl_alloc Try.z_part sh ?_ ?_)); exact rfl; clear sh; (try clear F); go_simp; (first | (have tok := tok_b13; clear tok tok_b13; intro b13 w1 sh) | (have tok := tok_b14; clear tok tok_b14; intro b14 w1 sh) | intro b w1 sh); have F := sh.facts; (try simp only [Hp.Facts, Hp.CellsAt, PvP.cellsAt_vm, Nat.reduceAdd, List.cons_append, List.nil_append] at F))
          | ((with_reducible refine Hp.atl_store ?_ ?_); exact rfl; (first | refine Hp.wp_store 0 sh rfl rfl rfl rfl (by kernel_rfl) (Nat.le_of_ble_eq_true rfl) rfl ?_ | refine Hp.wp_store 1 sh rfl rfl rfl rfl (by kernel_rfl) (Nat.le_of_ble_eq_true rfl) rfl ?_ | refine Hp.wp_store 2 sh rfl rfl rfl rfl (by kernel_rfl) (Nat.le_of_ble_eq_true rfl) rfl ?_ | refine Hp.wp_store 3 sh rfl rfl rfl rfl (by kernel_rfl) (Nat.le_of_ble_eq_true rfl) rfl ?_ | refine Hp.wp_store 4 sh rfl rfl rfl rfl (by kernel_rfl) (Nat.le_of_ble_eq_true rfl) rfl ?_ | refine Hp.wp_store 5 sh rfl rfl rfl rfl (by kernel_rfl) (Nat.le_of_ble_eq_true rfl) rfl ?_ | refine Hp.wp_store 6 sh rfl rfl rfl rfl (by kernel_rfl) (Nat.le_of_ble_eq_true rfl) rfl ?_); clear sh; (try clear F); go_simp; intro w1 sh; have F := sh.facts; (try simp only [Hp.Facts, Hp.CellsAt, PvP.cellsAt_vm, Nat.reduceAdd, List.cons_append, List.nil_append] at F))
          | fail)
      go_fit (KV2.out bm g _ sh.data.2.1 (PvP.own_rdv sh 2 rfl))
      rintro e w1 ⟨s2, c2, rfl, hn9, hr9, hb9⟩
      replace sh := Hp.gain sh hb9 hn9 hr9
      clear hn9 hr9 hb9 KV2
      replace sh := sh.imp (E := fun W => Hp.RdV W s2 (ints ws2) ∧ Hp.RdV W s1 (ints ws)) (fun W q => ⟨q.1, q.2.1⟩)
      (try clear F); (have F := sh.facts; (try simp only [Hp.Facts, Hp.CellsAt, PvP.cellsAt_vm, Nat.reduceAdd, List.cons_append, List.nil_append] at F))
      go_wp2_with (first
          | ((with_reducible refine Hp.atl_load 28 ?_); (first | refine PvP.ldv 0 rfl sh rfl rfl rfl rfl ?_ ?_ | refine PvP.ldv 1 rfl sh rfl rfl rfl rfl ?_ ?_ | refine PvP.ldv 2 rfl sh rfl rfl rfl rfl ?_ ?_ | refine PvP.ldv 3 rfl sh rfl rfl rfl rfl ?_ ?_ | refine PvP.ldv 4 rfl sh rfl rfl rfl rfl ?_ ?_ | refine PvP.ldv 5 rfl sh rfl rfl rfl rfl ?_ ?_ | refine PvP.ldv 6 rfl sh rfl rfl rfl rfl ?_ ?_ | refine PvP.ldv 7 rfl sh rfl rfl rfl rfl ?_ ?_ | refine PvP.ldv 8 rfl sh rfl rfl rfl rfl ?_ ?_); (simp only [List.length_set, hR, hR2, PvP.zero8_len]); go_simp)
          | ((with_reducible refine Hp.atl_store ?_ ?_); exact rfl; (first | refine PvP.stv 0 rfl sh rfl rfl rfl rfl ?_ ?_ ?_ | refine PvP.stv 1 rfl sh rfl rfl rfl rfl ?_ ?_ ?_ | refine PvP.stv 2 rfl sh rfl rfl rfl rfl ?_ ?_ ?_ | refine PvP.stv 3 rfl sh rfl rfl rfl rfl ?_ ?_ ?_ | refine PvP.stv 4 rfl sh rfl rfl rfl rfl ?_ ?_ ?_ | refine PvP.stv 5 rfl sh rfl rfl rfl rfl ?_ ?_ ?_ | refine PvP.stv 6 rfl sh rfl rfl rfl rfl ?_ ?_ ?_ | refine PvP.stv 7 rfl sh rfl rfl rfl rfl ?_ ?_ ?_ | refine PvP.stv 8 rfl sh rfl rfl rfl rfl ?_ ?_ ?_); (simp only [List.length_set, hR, hR2, PvP.zero8_len]); (simp only [List.length_set, hR, hR2, PvP.zero8_len]); clear sh; (try clear F); go_simp; intro w1 sh; (have F := sh.facts; (try simp only [Hp.Facts, Hp.CellsAt, PvP.cellsAt_vm, Nat.reduceAdd, List.cons_append, List.nil_append] at F)))
          | ((with_reducible refine Hp.atl_store ?_ ?_); exact rfl; (first | refine PvP.stp 0 rfl sh rfl rfl rfl rfl ?_ | refine PvP.stp 1 rfl sh rfl rfl rfl rfl ?_ | refine PvP.stp 2 rfl sh rfl rfl rfl rfl ?_ | refine PvP.stp 3 rfl sh rfl rfl rfl rfl ?_ | refine PvP.stp 4 rfl sh rfl rfl rfl rfl ?_ | refine PvP.stp 5 rfl sh rfl rfl rfl rfl ?_ | refine PvP.stp 6 rfl sh rfl rfl rfl rfl ?_ | refine PvP.stp 7 rfl sh rfl rfl rfl rfl ?_ | refine PvP.stp 8 rfl sh rfl rfl rfl rfl ?_); clear sh; (try clear F); go_simp; intro w1 sh; (have F := sh.facts; (try simp only [Hp.Facts, Hp.CellsAt, PvP.cellsAt_vm, Nat.reduceAdd, List.cons_append, List.nil_append] at F)))
          | ((first | (with_reducible refine Hp.wpl_box sh ?_ ?_) | (with_reducible refine Hp.wpl_alloc Try.z_vm sh ?_ ?_) | (with_reducible refine Hp.wpl_alloc Try.z_trap sh ?_ ?_) | (with_reducible refine Hp.wpl_alloc Try.z_insn sh ?_ ?_) | (with_reducible refine Hp.wpl_alloc Try.z_part sh ?_ ?_)); exact rfl; clear sh; (try clear F); go_simp; (first | intro b w1 sh); have F := sh.facts; (try simp only [Hp.Facts, Hp.CellsAt, PvP.cellsAt_vm, Nat.reduceAdd, List.cons_append, List.nil_append] at F))
          | ((with_reducible refine Hp.atl_store ?_ ?_); exact rfl; (first | refine Hp.wp_store 0 sh rfl rfl rfl rfl (by kernel_rfl) (Nat.le_of_ble_eq_true rfl) rfl ?_ | refine Hp.wp_store 1 sh rfl rfl rfl rfl (by kernel_rfl) (Nat.le_of_ble_eq_true rfl) rfl ?_ | refine Hp.wp_store 2 sh rfl rfl rfl rfl (by kernel_rfl) (Nat.le_of_ble_eq_true rfl) rfl ?_ | refine Hp.wp_store 3 sh rfl rfl rfl rfl (by kernel_rfl) (Nat.le_of_ble_eq_true rfl) rfl ?_ | refine Hp.wp_store 4 sh rfl rfl rfl rfl (by kernel_rfl) (Nat.le_of_ble_eq_true rfl) rfl ?_ | refine Hp.wp_store 5 sh rfl rfl rfl rfl (by kernel_rfl) (Nat.le_of_ble_eq_true rfl) rfl ?_ | refine Hp.wp_store 6 sh rfl rfl rfl rfl (by kernel_rfl) (Nat.le_of_ble_eq_true rfl) rfl ?_); clear sh; (try clear F); go_simp; intro w1 sh; have F := sh.facts; (try simp only [Hp.Facts, Hp.CellsAt, PvP.cellsAt_vm, Nat.reduceAdd, List.cons_append, List.nil_append] at F))
          | fail)
      clear hl1
      go_loopw [16, 17] (fun v i wr => ∃ (c k : Nat), v = .int .i64 c ∧ i = .int .i64 k ∧ k ≤ n ∧ c = (if J < k then 1 else 0) ∧ Hp.Sh w wr ((b14, #[.int .i64 tk, .int .i64 tn], 36) :: (b13, PvP.vmA (pc2, R2), 28) :: (g, (ints ws2).toArray, 25) :: (ball, #[.int .i64 0, .int .i64 n, .int .i64 0, .slice none 0 0, .int .i64 0, .int .i64 0], 24) :: (h, (ints ws).toArray, 25) :: (bv, PvP.vmA (pc, R), 28) :: (bp, #[.int .i64 b, .int .i64 z, .int .i64 r, .slice ks kn kc, .int .i64 f, .int .i64 ag], 24) :: []) (fun W => Hp.RdV W s2 (ints ws2) ∧ Hp.RdV W s1 (ints ws))) (fun _ i _ => n - (intOf i).toNat)
      case atStart => exact ⟨0, 0, rfl, rfl, by omega, by simp, sh⟩
      case round =>
        clear sh F
        obtain ⟨c, k, rfl, rfl, hk, hc, sh⟩ := hrel
        have hc2 : c ≤ 1 := by rw [hc]; split <;> omega
        by_cases hlt : k < n
        · have hlI : (k : Int) < (n : Int) := by omega
          have q1 := sh.data.1; have q2 := sh.data.2
          obtain ⟨p1, hp1, -⟩ := q1 (by rw [PvP.ints_len, HW2.out]; omega)
          obtain ⟨p2, hp2, -⟩ := q2 (by rw [PvP.ints_len, HW.out]; omega)
          subst hp1 hp2
          clear q1 q2
          have HC := Lib.hid (fun W (q : Hp.RdV W (some p1) (ints ws2) ∧ Hp.RdV W (some p2) (ints ws)) => And.intro (q.1.cell k (PvP.ints_at (by rw [HW2.out]; exact hlt))) (q.2.cell k (PvP.ints_at (by rw [HW.out]; exact hlt))))
          have hd9 := J2.out k hlt
          obtain ⟨u1, hu1⟩ : ∃ u, PvP.reg ws k = u := ⟨_, rfl⟩
          obtain ⟨u2, hu2⟩ : ∃ u, PvP.reg ws2 k = u := ⟨_, rfl⟩
          rw [hu1, hu2] at HC hd9
          clear hu1 hu2
          by_cases hkj : k = J
          · rw [decide_eq_true hkj] at hd9
            subst hkj
            obtain ⟨g1, g2⟩ := J3.out (by omega)
            have g3 : decide ((k : Int) < b) = false := by simp; omega
            have g4 : IntKind.i64.wrap ((k : Int) - b) = (k : Int) - b := IntWalk.i64_in _ (by omega)
            have g5 : decide (z ≤ (k : Int) - b) = false := by simp; omega
            have g6 : c = 0 := by rw [hc, if_neg (by omega)]
            have g7 : b ≤ (k : Int) := by omega
            have g8 : (k : Int) - b < z := by omega
            clear hc g1 g2
            have F := sh.facts; (try simp only [Hp.Facts, Hp.CellsAt, PvP.cellsAt_vm, Nat.reduceAdd, List.cons_append, List.nil_append] at F)
            go_wp2_with (first
                | ((first | (with_reducible refine Hp.wpl_box sh ?_ ?_) | (with_reducible refine Hp.wpl_alloc Try.z_vm sh ?_ ?_) | (with_reducible refine Hp.wpl_alloc Try.z_trap sh ?_ ?_) | (with_reducible refine Hp.wpl_alloc Try.z_insn sh ?_ ?_) | (with_reducible refine Hp.wpl_alloc Try.z_part sh ?_ ?_)); exact rfl; clear sh; (try clear F); go_simp; (first | intro b w1 sh); have F := sh.facts; (try simp only [Hp.Facts, Hp.CellsAt, PvP.cellsAt_vm, Nat.reduceAdd, List.cons_append, List.nil_append] at F))
                | ((with_reducible refine Hp.atl_store ?_ ?_); exact rfl; (first | refine Hp.wp_store 0 sh rfl rfl rfl rfl (by kernel_rfl) (Nat.le_of_ble_eq_true rfl) rfl ?_ | refine Hp.wp_store 1 sh rfl rfl rfl rfl (by kernel_rfl) (Nat.le_of_ble_eq_true rfl) rfl ?_ | refine Hp.wp_store 2 sh rfl rfl rfl rfl (by kernel_rfl) (Nat.le_of_ble_eq_true rfl) rfl ?_ | refine Hp.wp_store 3 sh rfl rfl rfl rfl (by kernel_rfl) (Nat.le_of_ble_eq_true rfl) rfl ?_ | refine Hp.wp_store 4 sh rfl rfl rfl rfl (by kernel_rfl) (Nat.le_of_ble_eq_true rfl) rfl ?_ | refine Hp.wp_store 5 sh rfl rfl rfl rfl (by kernel_rfl) (Nat.le_of_ble_eq_true rfl) rfl ?_ | refine Hp.wp_store 6 sh rfl rfl rfl rfl (by kernel_rfl) (Nat.le_of_ble_eq_true rfl) rfl ?_); clear sh; (try clear F); go_simp; intro w1 sh; have F := sh.facts; (try simp only [Hp.Facts, Hp.CellsAt, PvP.cellsAt_vm, Nat.reduceAdd, List.cons_append, List.nil_append] at F))
                | fail)
            refine Hp.region_soft (by kernel_rfl) sh (fun _ q => q) ?_; clear sh; (try clear F)
            (try simp only [])
            (refine Hp.soft_take (i := 0) (oi := ⟨some 66, Op.move (Operand.tmp 12), _, _, _, none⟩) _ rfl (by kernel_rfl) (by kernel_rfl) (by kernel_rfl) (fun _ _ _ h => h) (fun _ q => q) (by rfl) (fun W hW => by go_simp; (try with_reducible rfl)) ?_; (try simp only [Act.put, List.setIfInBounds_toArray, List.set_cons_zero, List.set_cons_succ]))
            (refine Hp.soft_take (i := 1) (oi := ⟨some 67, Op.move (Operand.tmp 17), _, _, _, none⟩) _ rfl (by kernel_rfl) (by kernel_rfl) (by kernel_rfl) (fun _ _ _ h => h) (fun _ q => q) (by rfl) (fun W hW => by go_simp; (try with_reducible rfl)) ?_; (try simp only [Act.put, List.setIfInBounds_toArray, List.set_cons_zero, List.set_cons_succ]))
            (refine Hp.soft_take (i := 2) (oi := ⟨some 68, Op.indexAddr 22 (Operand.tmp 66) (Operand.tmp 67), _, _, _, none⟩) _ rfl (by kernel_rfl) (by kernel_rfl) (by kernel_rfl) (fun _ _ _ h => h) (fun _ q => q) (by rfl) (fun W hW => by go_simp; (try with_reducible rfl)) ?_; (try simp only [Act.put, List.setIfInBounds_toArray, List.set_cons_zero, List.set_cons_succ]))
            (refine Hp.soft_take (i := 3) (oi := ⟨some 69, Op.load 25 (Operand.tmp 68), _, _, _, none⟩) _ rfl (by kernel_rfl) (by kernel_rfl) (by kernel_rfl) (fun _ _ _ h => h) (fun _ q => q) (by rfl) (fun W hW => by (have F := Hp.Sh.facts hW); (have hd := Hp.Sh.data hW); (try simp only [Hp.Facts, Hp.CellsAt, PvP.cellsAt_vm, Nat.reduceAdd, List.cons_append, List.nil_append] at F); have hcs := HC.out _ hd; go_simp; (try with_reducible rfl)) ?_; (try simp only [Act.put, List.setIfInBounds_toArray, List.set_cons_zero, List.set_cons_succ]))
            (refine Hp.soft_take (i := 4) (oi := ⟨some 70, Op.move (Operand.tmp 15), _, _, _, none⟩) _ rfl (by kernel_rfl) (by kernel_rfl) (by kernel_rfl) (fun _ _ _ h => h) (fun _ q => q) (by rfl) (fun W hW => by go_simp; (try with_reducible rfl)) ?_; (try simp only [Act.put, List.setIfInBounds_toArray, List.set_cons_zero, List.set_cons_succ]))
            (refine Hp.soft_take (i := 5) (oi := ⟨some 71, Op.move (Operand.tmp 17), _, _, _, none⟩) _ rfl (by kernel_rfl) (by kernel_rfl) (by kernel_rfl) (fun _ _ _ h => h) (fun _ q => q) (by rfl) (fun W hW => by go_simp; (try with_reducible rfl)) ?_; (try simp only [Act.put, List.setIfInBounds_toArray, List.set_cons_zero, List.set_cons_succ]))
            (refine Hp.soft_take (i := 6) (oi := ⟨some 72, Op.indexAddr 22 (Operand.tmp 70) (Operand.tmp 71), _, _, _, none⟩) _ rfl (by kernel_rfl) (by kernel_rfl) (by kernel_rfl) (fun _ _ _ h => h) (fun _ q => q) (by rfl) (fun W hW => by go_simp; (try with_reducible rfl)) ?_; (try simp only [Act.put, List.setIfInBounds_toArray, List.set_cons_zero, List.set_cons_succ]))
            (refine Hp.soft_take (i := 7) (oi := ⟨some 73, Op.load 25 (Operand.tmp 72), _, _, _, none⟩) _ rfl (by kernel_rfl) (by kernel_rfl) (by kernel_rfl) (fun _ _ _ h => h) (fun _ q => q) (by rfl) (fun W hW => by (have F := Hp.Sh.facts hW); (have hd := Hp.Sh.data hW); (try simp only [Hp.Facts, Hp.CellsAt, PvP.cellsAt_vm, Nat.reduceAdd, List.cons_append, List.nil_append] at F); have hcs := HC.out _ hd; go_simp; (try with_reducible rfl)) ?_; (try simp only [Act.put, List.setIfInBounds_toArray, List.set_cons_zero, List.set_cons_succ]))
            (refine Hp.soft_take (i := 8) (oi := ⟨some 74, Op.binOp BinOp.neq 25 (Operand.tmp 69) (Operand.tmp 73) 25, _, _, _, none⟩) _ rfl (by kernel_rfl) (by kernel_rfl) (by kernel_rfl) (fun _ _ _ h => h) (fun _ q => q) (by rfl) (fun W hW => by go_simp; (try with_reducible rfl)) ?_; (try simp only [Act.put, List.setIfInBounds_toArray, List.set_cons_zero, List.set_cons_succ]))
            refine Hp.soft_done (by kernel_rfl) (fun w1 sh => ?_) _; (try clear F); (try have F := Hp.Sh.facts sh); (try simp only [Hp.Facts, Hp.CellsAt, PvP.cellsAt_vm, Nat.reduceAdd, List.cons_append, List.nil_append] at F)
            go_wp2_with (first
                | ((first | (with_reducible refine Hp.wpl_box sh ?_ ?_) | (with_reducible refine Hp.wpl_alloc Try.z_vm sh ?_ ?_) | (with_reducible refine Hp.wpl_alloc Try.z_trap sh ?_ ?_) | (with_reducible refine Hp.wpl_alloc Try.z_insn sh ?_ ?_) | (with_reducible refine Hp.wpl_alloc Try.z_part sh ?_ ?_)); exact rfl; clear sh; (try clear F); go_simp; (first | intro b w1 sh); have F := sh.facts; (try simp only [Hp.Facts, Hp.CellsAt, PvP.cellsAt_vm, Nat.reduceAdd, List.cons_append, List.nil_append] at F))
                | ((with_reducible refine Hp.atl_store ?_ ?_); exact rfl; (first | refine Hp.wp_store 0 sh rfl rfl rfl rfl (by kernel_rfl) (Nat.le_of_ble_eq_true rfl) rfl ?_ | refine Hp.wp_store 1 sh rfl rfl rfl rfl (by kernel_rfl) (Nat.le_of_ble_eq_true rfl) rfl ?_ | refine Hp.wp_store 2 sh rfl rfl rfl rfl (by kernel_rfl) (Nat.le_of_ble_eq_true rfl) rfl ?_ | refine Hp.wp_store 3 sh rfl rfl rfl rfl (by kernel_rfl) (Nat.le_of_ble_eq_true rfl) rfl ?_ | refine Hp.wp_store 4 sh rfl rfl rfl rfl (by kernel_rfl) (Nat.le_of_ble_eq_true rfl) rfl ?_ | refine Hp.wp_store 5 sh rfl rfl rfl rfl (by kernel_rfl) (Nat.le_of_ble_eq_true rfl) rfl ?_ | refine Hp.wp_store 6 sh rfl rfl rfl rfl (by kernel_rfl) (Nat.le_of_ble_eq_true rfl) rfl ?_); clear sh; (try clear F); go_simp; intro w1 sh; have F := sh.facts; (try simp only [Hp.Facts, Hp.CellsAt, PvP.cellsAt_vm, Nat.reduceAdd, List.cons_append, List.nil_append] at F))
                | fail)
            clear g4
            go_roundw
            case rel => exact ⟨1, k + 1, by subst g6; go_num, by go_num, by omega, by rw [if_pos (by omega)], sh⟩
            case measure => simp [intOf]; omega
          · rw [decide_eq_false hkj] at hd9
            have F := sh.facts; (try simp only [Hp.Facts, Hp.CellsAt, PvP.cellsAt_vm, Nat.reduceAdd, List.cons_append, List.nil_append] at F)
            go_wp2_with (first
                | ((first | (with_reducible refine Hp.wpl_box sh ?_ ?_) | (with_reducible refine Hp.wpl_alloc Try.z_vm sh ?_ ?_) | (with_reducible refine Hp.wpl_alloc Try.z_trap sh ?_ ?_) | (with_reducible refine Hp.wpl_alloc Try.z_insn sh ?_ ?_) | (with_reducible refine Hp.wpl_alloc Try.z_part sh ?_ ?_)); exact rfl; clear sh; (try clear F); go_simp; (first | intro b w1 sh); have F := sh.facts; (try simp only [Hp.Facts, Hp.CellsAt, PvP.cellsAt_vm, Nat.reduceAdd, List.cons_append, List.nil_append] at F))
                | ((with_reducible refine Hp.atl_store ?_ ?_); exact rfl; (first | refine Hp.wp_store 0 sh rfl rfl rfl rfl (by kernel_rfl) (Nat.le_of_ble_eq_true rfl) rfl ?_ | refine Hp.wp_store 1 sh rfl rfl rfl rfl (by kernel_rfl) (Nat.le_of_ble_eq_true rfl) rfl ?_ | refine Hp.wp_store 2 sh rfl rfl rfl rfl (by kernel_rfl) (Nat.le_of_ble_eq_true rfl) rfl ?_ | refine Hp.wp_store 3 sh rfl rfl rfl rfl (by kernel_rfl) (Nat.le_of_ble_eq_true rfl) rfl ?_ | refine Hp.wp_store 4 sh rfl rfl rfl rfl (by kernel_rfl) (Nat.le_of_ble_eq_true rfl) rfl ?_ | refine Hp.wp_store 5 sh rfl rfl rfl rfl (by kernel_rfl) (Nat.le_of_ble_eq_true rfl) rfl ?_ | refine Hp.wp_store 6 sh rfl rfl rfl rfl (by kernel_rfl) (Nat.le_of_ble_eq_true rfl) rfl ?_); clear sh; (try clear F); go_simp; intro w1 sh; have F := sh.facts; (try simp only [Hp.Facts, Hp.CellsAt, PvP.cellsAt_vm, Nat.reduceAdd, List.cons_append, List.nil_append] at F))
                | fail)
            refine Hp.region_soft (by kernel_rfl) sh (fun _ q => q) ?_; clear sh; (try clear F)
            (try simp only [])
            (refine Hp.soft_take (i := 0) (oi := ⟨some 66, Op.move (Operand.tmp 12), _, _, _, none⟩) _ rfl (by kernel_rfl) (by kernel_rfl) (by kernel_rfl) (fun _ _ _ h => h) (fun _ q => q) (by rfl) (fun W hW => by go_simp; (try with_reducible rfl)) ?_; (try simp only [Act.put, List.setIfInBounds_toArray, List.set_cons_zero, List.set_cons_succ]))
            (refine Hp.soft_take (i := 1) (oi := ⟨some 67, Op.move (Operand.tmp 17), _, _, _, none⟩) _ rfl (by kernel_rfl) (by kernel_rfl) (by kernel_rfl) (fun _ _ _ h => h) (fun _ q => q) (by rfl) (fun W hW => by go_simp; (try with_reducible rfl)) ?_; (try simp only [Act.put, List.setIfInBounds_toArray, List.set_cons_zero, List.set_cons_succ]))
            (refine Hp.soft_take (i := 2) (oi := ⟨some 68, Op.indexAddr 22 (Operand.tmp 66) (Operand.tmp 67), _, _, _, none⟩) _ rfl (by kernel_rfl) (by kernel_rfl) (by kernel_rfl) (fun _ _ _ h => h) (fun _ q => q) (by rfl) (fun W hW => by go_simp; (try with_reducible rfl)) ?_; (try simp only [Act.put, List.setIfInBounds_toArray, List.set_cons_zero, List.set_cons_succ]))
            (refine Hp.soft_take (i := 3) (oi := ⟨some 69, Op.load 25 (Operand.tmp 68), _, _, _, none⟩) _ rfl (by kernel_rfl) (by kernel_rfl) (by kernel_rfl) (fun _ _ _ h => h) (fun _ q => q) (by rfl) (fun W hW => by (have F := Hp.Sh.facts hW); (have hd := Hp.Sh.data hW); (try simp only [Hp.Facts, Hp.CellsAt, PvP.cellsAt_vm, Nat.reduceAdd, List.cons_append, List.nil_append] at F); have hcs := HC.out _ hd; go_simp; (try with_reducible rfl)) ?_; (try simp only [Act.put, List.setIfInBounds_toArray, List.set_cons_zero, List.set_cons_succ]))
            (refine Hp.soft_take (i := 4) (oi := ⟨some 70, Op.move (Operand.tmp 15), _, _, _, none⟩) _ rfl (by kernel_rfl) (by kernel_rfl) (by kernel_rfl) (fun _ _ _ h => h) (fun _ q => q) (by rfl) (fun W hW => by go_simp; (try with_reducible rfl)) ?_; (try simp only [Act.put, List.setIfInBounds_toArray, List.set_cons_zero, List.set_cons_succ]))
            (refine Hp.soft_take (i := 5) (oi := ⟨some 71, Op.move (Operand.tmp 17), _, _, _, none⟩) _ rfl (by kernel_rfl) (by kernel_rfl) (by kernel_rfl) (fun _ _ _ h => h) (fun _ q => q) (by rfl) (fun W hW => by go_simp; (try with_reducible rfl)) ?_; (try simp only [Act.put, List.setIfInBounds_toArray, List.set_cons_zero, List.set_cons_succ]))
            (refine Hp.soft_take (i := 6) (oi := ⟨some 72, Op.indexAddr 22 (Operand.tmp 70) (Operand.tmp 71), _, _, _, none⟩) _ rfl (by kernel_rfl) (by kernel_rfl) (by kernel_rfl) (fun _ _ _ h => h) (fun _ q => q) (by rfl) (fun W hW => by go_simp; (try with_reducible rfl)) ?_; (try simp only [Act.put, List.setIfInBounds_toArray, List.set_cons_zero, List.set_cons_succ]))
            (refine Hp.soft_take (i := 7) (oi := ⟨some 73, Op.load 25 (Operand.tmp 72), _, _, _, none⟩) _ rfl (by kernel_rfl) (by kernel_rfl) (by kernel_rfl) (fun _ _ _ h => h) (fun _ q => q) (by rfl) (fun W hW => by (have F := Hp.Sh.facts hW); (have hd := Hp.Sh.data hW); (try simp only [Hp.Facts, Hp.CellsAt, PvP.cellsAt_vm, Nat.reduceAdd, List.cons_append, List.nil_append] at F); have hcs := HC.out _ hd; go_simp; (try with_reducible rfl)) ?_; (try simp only [Act.put, List.setIfInBounds_toArray, List.set_cons_zero, List.set_cons_succ]))
            (refine Hp.soft_take (i := 8) (oi := ⟨some 74, Op.binOp BinOp.neq 25 (Operand.tmp 69) (Operand.tmp 73) 25, _, _, _, none⟩) _ rfl (by kernel_rfl) (by kernel_rfl) (by kernel_rfl) (fun _ _ _ h => h) (fun _ q => q) (by rfl) (fun W hW => by go_simp; (try with_reducible rfl)) ?_; (try simp only [Act.put, List.setIfInBounds_toArray, List.set_cons_zero, List.set_cons_succ]))
            refine Hp.soft_done (by kernel_rfl) (fun w1 sh => ?_) _; (try clear F); (try have F := Hp.Sh.facts sh); (try simp only [Hp.Facts, Hp.CellsAt, PvP.cellsAt_vm, Nat.reduceAdd, List.cons_append, List.nil_append] at F)
            go_wp2_with (first
                | ((first | (with_reducible refine Hp.wpl_box sh ?_ ?_) | (with_reducible refine Hp.wpl_alloc Try.z_vm sh ?_ ?_) | (with_reducible refine Hp.wpl_alloc Try.z_trap sh ?_ ?_) | (with_reducible refine Hp.wpl_alloc Try.z_insn sh ?_ ?_) | (with_reducible refine Hp.wpl_alloc Try.z_part sh ?_ ?_)); exact rfl; clear sh; (try clear F); go_simp; (first | intro b w1 sh); have F := sh.facts; (try simp only [Hp.Facts, Hp.CellsAt, PvP.cellsAt_vm, Nat.reduceAdd, List.cons_append, List.nil_append] at F))
                | ((with_reducible refine Hp.atl_store ?_ ?_); exact rfl; (first | refine Hp.wp_store 0 sh rfl rfl rfl rfl (by kernel_rfl) (Nat.le_of_ble_eq_true rfl) rfl ?_ | refine Hp.wp_store 1 sh rfl rfl rfl rfl (by kernel_rfl) (Nat.le_of_ble_eq_true rfl) rfl ?_ | refine Hp.wp_store 2 sh rfl rfl rfl rfl (by kernel_rfl) (Nat.le_of_ble_eq_true rfl) rfl ?_ | refine Hp.wp_store 3 sh rfl rfl rfl rfl (by kernel_rfl) (Nat.le_of_ble_eq_true rfl) rfl ?_ | refine Hp.wp_store 4 sh rfl rfl rfl rfl (by kernel_rfl) (Nat.le_of_ble_eq_true rfl) rfl ?_ | refine Hp.wp_store 5 sh rfl rfl rfl rfl (by kernel_rfl) (Nat.le_of_ble_eq_true rfl) rfl ?_ | refine Hp.wp_store 6 sh rfl rfl rfl rfl (by kernel_rfl) (Nat.le_of_ble_eq_true rfl) rfl ?_); clear sh; (try clear F); go_simp; intro w1 sh; have F := sh.facts; (try simp only [Hp.Facts, Hp.CellsAt, PvP.cellsAt_vm, Nat.reduceAdd, List.cons_append, List.nil_append] at F))
                | fail)
            go_roundw
            case rel => exact ⟨c, k + 1, rfl, by go_num, by omega, by rw [hc]; by_cases q : J < k; (rw [if_pos q, if_pos (by omega)]); (rw [if_neg q, if_neg (by omega)]), sh⟩
            case measure => simp [intOf]; omega
        · obtain rfl : k = n := by omega
          have hlI : ¬ (k : Int) < (k : Int) := by omega
          have hcI : (c : Int) ≤ 1 := by omega
          by_cases htk : tk = 4
          · subst htk
            obtain ⟨hv2, hJ⟩ := J4.out rfl
            have e1 : pc2 = pc := congrArg (·.1) hv2
            have e2 : R2 = R := congrArg (·.2) hv2
            subst e1 e2
            obtain rfl : c = 0 := by rw [hc, if_neg (by omega)]
            have hq := vm_eq (pc2, R2) hR2
            clear hv2 hJ hc
            have F := sh.facts; (try simp only [Hp.Facts, Hp.CellsAt, PvP.cellsAt_vm, Nat.reduceAdd, List.cons_append, List.nil_append] at F)
            go_wp2_with (first
                | ((first | (with_reducible refine Hp.wpl_box sh ?_ ?_) | (with_reducible refine Hp.wpl_alloc Try.z_vm sh ?_ ?_) | (with_reducible refine Hp.wpl_alloc Try.z_trap sh ?_ ?_) | (with_reducible refine Hp.wpl_alloc Try.z_insn sh ?_ ?_) | (with_reducible refine Hp.wpl_alloc Try.z_part sh ?_ ?_)); exact rfl; clear sh; (try clear F); go_simp; (first | intro b w1 sh); have F := sh.facts; (try simp only [Hp.Facts, Hp.CellsAt, PvP.cellsAt_vm, Nat.reduceAdd, List.cons_append, List.nil_append] at F))
                | ((with_reducible refine Hp.atl_store ?_ ?_); exact rfl; (first | refine Hp.wp_store 0 sh rfl rfl rfl rfl (by kernel_rfl) (Nat.le_of_ble_eq_true rfl) rfl ?_ | refine Hp.wp_store 1 sh rfl rfl rfl rfl (by kernel_rfl) (Nat.le_of_ble_eq_true rfl) rfl ?_ | refine Hp.wp_store 2 sh rfl rfl rfl rfl (by kernel_rfl) (Nat.le_of_ble_eq_true rfl) rfl ?_ | refine Hp.wp_store 3 sh rfl rfl rfl rfl (by kernel_rfl) (Nat.le_of_ble_eq_true rfl) rfl ?_ | refine Hp.wp_store 4 sh rfl rfl rfl rfl (by kernel_rfl) (Nat.le_of_ble_eq_true rfl) rfl ?_ | refine Hp.wp_store 5 sh rfl rfl rfl rfl (by kernel_rfl) (Nat.le_of_ble_eq_true rfl) rfl ?_ | refine Hp.wp_store 6 sh rfl rfl rfl rfl (by kernel_rfl) (Nat.le_of_ble_eq_true rfl) rfl ?_); clear sh; (try clear F); go_simp; intro w1 sh; have F := sh.facts; (try simp only [Hp.Facts, Hp.CellsAt, PvP.cellsAt_vm, Nat.reduceAdd, List.cons_append, List.nil_append] at F))
                | fail)
            go_fit (K0.out _)
            rintro e w1 ⟨rfl, hb⟩
            replace sh := sh.call hb; clear hb; (try clear F); have F := sh.facts; (try simp only [Hp.Facts, Hp.CellsAt, PvP.cellsAt_vm, Nat.reduceAdd, List.cons_append, List.nil_append] at F)
            go_wp2_with (first
                | ((with_reducible refine Hp.atl_load 28 ?_); (first | refine PvP.ldg 0 rfl sh rfl rfl rfl rfl ?_ ?_ | refine PvP.ldg 1 rfl sh rfl rfl rfl rfl ?_ ?_ | refine PvP.ldg 2 rfl sh rfl rfl rfl rfl ?_ ?_ | refine PvP.ldg 3 rfl sh rfl rfl rfl rfl ?_ ?_ | refine PvP.ldg 4 rfl sh rfl rfl rfl rfl ?_ ?_ | refine PvP.ldg 5 rfl sh rfl rfl rfl rfl ?_ ?_ | refine PvP.ldg 6 rfl sh rfl rfl rfl rfl ?_ ?_ | refine PvP.ldg 7 rfl sh rfl rfl rfl rfl ?_ ?_ | refine PvP.ldg 8 rfl sh rfl rfl rfl rfl ?_ ?_); (simp only [List.length_set, hR, hR2, PvP.zero8_len]); go_simp)
                | ((first | (with_reducible refine Hp.wpl_box sh ?_ ?_) | (with_reducible refine Hp.wpl_alloc Try.z_vm sh ?_ ?_) | (with_reducible refine Hp.wpl_alloc Try.z_trap sh ?_ ?_) | (with_reducible refine Hp.wpl_alloc Try.z_insn sh ?_ ?_) | (with_reducible refine Hp.wpl_alloc Try.z_part sh ?_ ?_)); exact rfl; clear sh; (try clear F); go_simp; (first | intro b w1 sh); have F := sh.facts; (try simp only [Hp.Facts, Hp.CellsAt, PvP.cellsAt_vm, Nat.reduceAdd, List.cons_append, List.nil_append] at F))
                | ((with_reducible refine Hp.atl_store ?_ ?_); exact rfl; (first | refine Hp.wp_store 0 sh rfl rfl rfl rfl (by kernel_rfl) (Nat.le_of_ble_eq_true rfl) rfl ?_ | refine Hp.wp_store 1 sh rfl rfl rfl rfl (by kernel_rfl) (Nat.le_of_ble_eq_true rfl) rfl ?_ | refine Hp.wp_store 2 sh rfl rfl rfl rfl (by kernel_rfl) (Nat.le_of_ble_eq_true rfl) rfl ?_ | refine Hp.wp_store 3 sh rfl rfl rfl rfl (by kernel_rfl) (Nat.le_of_ble_eq_true rfl) rfl ?_ | refine Hp.wp_store 4 sh rfl rfl rfl rfl (by kernel_rfl) (Nat.le_of_ble_eq_true rfl) rfl ?_ | refine Hp.wp_store 5 sh rfl rfl rfl rfl (by kernel_rfl) (Nat.le_of_ble_eq_true rfl) rfl ?_ | refine Hp.wp_store 6 sh rfl rfl rfl rfl (by kernel_rfl) (Nat.le_of_ble_eq_true rfl) rfl ?_); clear sh; (try clear F); go_simp; intro w1 sh; have F := sh.facts; (try simp only [Hp.Facts, Hp.CellsAt, PvP.cellsAt_vm, Nat.reduceAdd, List.cons_append, List.nil_append] at F))
                | fail)
            go_ret
            exact ⟨rfl, sh.below⟩
          · have h0 : (tk != 4) = true := by simpa using htk
            clear hc
            have F := sh.facts; (try simp only [Hp.Facts, Hp.CellsAt, PvP.cellsAt_vm, Nat.reduceAdd, List.cons_append, List.nil_append] at F)
            go_wp2_with (first
                | ((first | (with_reducible refine Hp.wpl_box sh ?_ ?_) | (with_reducible refine Hp.wpl_alloc Try.z_vm sh ?_ ?_) | (with_reducible refine Hp.wpl_alloc Try.z_trap sh ?_ ?_) | (with_reducible refine Hp.wpl_alloc Try.z_insn sh ?_ ?_) | (with_reducible refine Hp.wpl_alloc Try.z_part sh ?_ ?_)); exact rfl; clear sh; (try clear F); go_simp; (first | intro b w1 sh); have F := sh.facts; (try simp only [Hp.Facts, Hp.CellsAt, PvP.cellsAt_vm, Nat.reduceAdd, List.cons_append, List.nil_append] at F))
                | ((with_reducible refine Hp.atl_store ?_ ?_); exact rfl; (first | refine Hp.wp_store 0 sh rfl rfl rfl rfl (by kernel_rfl) (Nat.le_of_ble_eq_true rfl) rfl ?_ | refine Hp.wp_store 1 sh rfl rfl rfl rfl (by kernel_rfl) (Nat.le_of_ble_eq_true rfl) rfl ?_ | refine Hp.wp_store 2 sh rfl rfl rfl rfl (by kernel_rfl) (Nat.le_of_ble_eq_true rfl) rfl ?_ | refine Hp.wp_store 3 sh rfl rfl rfl rfl (by kernel_rfl) (Nat.le_of_ble_eq_true rfl) rfl ?_ | refine Hp.wp_store 4 sh rfl rfl rfl rfl (by kernel_rfl) (Nat.le_of_ble_eq_true rfl) rfl ?_ | refine Hp.wp_store 5 sh rfl rfl rfl rfl (by kernel_rfl) (Nat.le_of_ble_eq_true rfl) rfl ?_ | refine Hp.wp_store 6 sh rfl rfl rfl rfl (by kernel_rfl) (Nat.le_of_ble_eq_true rfl) rfl ?_); clear sh; (try clear F); go_simp; intro w1 sh; have F := sh.facts; (try simp only [Hp.Facts, Hp.CellsAt, PvP.cellsAt_vm, Nat.reduceAdd, List.cons_append, List.nil_append] at F))
                | fail)
            go_fit (K0.out _)
            rintro e w1 ⟨rfl, hb⟩
            replace sh := sh.call hb; clear hb; (try clear F); have F := sh.facts; (try simp only [Hp.Facts, Hp.CellsAt, PvP.cellsAt_vm, Nat.reduceAdd, List.cons_append, List.nil_append] at F)
            go_wp2_with (first
                | ((first | (with_reducible refine Hp.wpl_box sh ?_ ?_) | (with_reducible refine Hp.wpl_alloc Try.z_vm sh ?_ ?_) | (with_reducible refine Hp.wpl_alloc Try.z_trap sh ?_ ?_) | (with_reducible refine Hp.wpl_alloc Try.z_insn sh ?_ ?_) | (with_reducible refine Hp.wpl_alloc Try.z_part sh ?_ ?_)); exact rfl; clear sh; (try clear F); go_simp; (first | intro b w1 sh); have F := sh.facts; (try simp only [Hp.Facts, Hp.CellsAt, PvP.cellsAt_vm, Nat.reduceAdd, List.cons_append, List.nil_append] at F))
                | ((with_reducible refine Hp.atl_store ?_ ?_); exact rfl; (first | refine Hp.wp_store 0 sh rfl rfl rfl rfl (by kernel_rfl) (Nat.le_of_ble_eq_true rfl) rfl ?_ | refine Hp.wp_store 1 sh rfl rfl rfl rfl (by kernel_rfl) (Nat.le_of_ble_eq_true rfl) rfl ?_ | refine Hp.wp_store 2 sh rfl rfl rfl rfl (by kernel_rfl) (Nat.le_of_ble_eq_true rfl) rfl ?_ | refine Hp.wp_store 3 sh rfl rfl rfl rfl (by kernel_rfl) (Nat.le_of_ble_eq_true rfl) rfl ?_ | refine Hp.wp_store 4 sh rfl rfl rfl rfl (by kernel_rfl) (Nat.le_of_ble_eq_true rfl) rfl ?_ | refine Hp.wp_store 5 sh rfl rfl rfl rfl (by kernel_rfl) (Nat.le_of_ble_eq_true rfl) rfl ?_ | refine Hp.wp_store 6 sh rfl rfl rfl rfl (by kernel_rfl) (Nat.le_of_ble_eq_true rfl) rfl ?_); clear sh; (try clear F); go_simp; intro w1 sh; have F := sh.facts; (try simp only [Hp.Facts, Hp.CellsAt, PvP.cellsAt_vm, Nat.reduceAdd, List.cons_append, List.nil_append] at F))
                | fail)
            go_ret
            exact ⟨rfl, sh.below⟩

end Go.Proofs.Ytfioeliejblboaa