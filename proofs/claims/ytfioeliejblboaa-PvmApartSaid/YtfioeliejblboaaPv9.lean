/-
  The walks of the chapter's example, of big and memory.
-/
import Derived.Test.YtfioeliejblboaaPv8
import Derived.Test.YtfioeliejblboaaPvEq
namespace Go.Proofs.Ytfioeliejblboaa
open Go.RowKit
set_option linter.unusedVariables false
set_option linter.unusedSimpArgs false
theorem Try.z_vmL (W : World) : (zeroValue 28).run Try.prog W = .ok (.agg #[.int .i64 0, .int .u32 0, .int .u32 0, .int .u32 0, .int .u32 0, .int .u32 0, .int .u32 0, .int .u32 0, .int .u32 0]) W := by kernel_rfl
namespace PvP
def exC : List Int := [17825797, 51445760, 118620161, 184549385]
theorem ex_run : run exC 4 1 2 9 [0, 0, 0, 0] (0, zero8) = ((((4, [0, 10, 0, 0, 0, 0, 0, 0]), (1, 9)), 4), [0, 0, 10, 0]) := by decide +kernel
theorem ex_step : step exC 4 1 2 [0, 0, 10, 0] (4, [0, 10, 0, 0, 0, 0, 0, 0]) = (((4, [0, 10, 0, 0, 0, 0, 0, 0]), (4, 1)), [0, 0, 10, 0]) := by decide +kernel
theorem ex_get : RegP.getV 4 [0, 0, 10, 0] 1 2 1 = 10 := by decide +kernel
theorem ex_pc : RegP.pc 4 1 2 1 1 = 0 := by decide +kernel
theorem ex_code : ∀ c ∈ exC, 0 ≤ c ∧ c ≤ 4294967295 := by decide
theorem ex_vm : VmB (4, [0, 10, 0, 0, 0, 0, 0, 0]) := by unfold VmB; decide
theorem ex_vm0 : VmB (0, zero8) := by unfold VmB; decide
theorem ex_ws : WsB [0, 0, 0, 0] := by unfold WsB; decide
theorem ex_ws2 : WsB [0, 0, 10, 0] := by unfold WsB; decide
end PvP
theorem kran_run (bm g bl : Nat) (w0 w : World) (H : List Hp.Blk) (D : World → Prop) (sh : Hp.Sh w0 w ((g, (ints [0, 0, 0, 0]).toArray, 25) :: H) D) (hM : ∀ W, D W → RegP.MemIs bm g 4 W) (hC : ∀ W, D W → Hp.RdV W (some ⟨bl, 0, none⟩) (ints PvP.exC)) :
    Calls Try.prog 17 #[.agg #[.int .i64 1, .int .i64 2, .int .i64 0, .slice (some ⟨bl, 0, none⟩) 4 4, .int .i64 0, .int .i64 0], .pointer (some ⟨bm, 0, none⟩), .agg #[.int .i64 0, .int .u32 0, .int .u32 0, .int .u32 0, .int .u32 0, .int .u32 0, .int .u32 0, .int .u32 0, .int .u32 0], .int .i64 9] w fun e w' => e = .returned (.tuple #[.agg #[.int .i64 4, .int .u32 0, .int .u32 10, .int .u32 0, .int .u32 0, .int .u32 0, .int .u32 0, .int .u32 0, .int .u32 0], .agg #[.int .i64 1, .int .i64 9], .int .i64 4]) ∧ Hp.Sh w0 w' ((g, (ints [0, 0, 10, 0]).toArray, 25) :: H) D := by
  have h := prun bm g 4 [0, 0, 0, 0] 1 2 0 (some ⟨bl, 0, none⟩) 4 4 0 0 PvP.exC 0 PvP.zero8 9 w0 w H D sh hM (by decide) rfl (by decide) (by decide) rfl (by decide) (by decide) hC PvP.ex_code PvP.ex_vm0 PvP.ex_ws (by decide)
  rw [show (if (10000 : Int) < 9 then (10000 : Int) else 9).toNat = 9 from rfl, PvP.ex_run] at h
  exact h
theorem kran_step (bm g bl : Nat) (w0 w : World) (H : List Hp.Blk) (D : World → Prop) (sh : Hp.Sh w0 w ((g, (ints [0, 0, 10, 0]).toArray, 25) :: H) D) (hM : ∀ W, D W → RegP.MemIs bm g 4 W) (hC : ∀ W, D W → Hp.RdV W (some ⟨bl, 0, none⟩) (ints PvP.exC)) :
    Calls Try.prog 11 #[.agg #[.int .i64 1, .int .i64 2, .int .i64 0, .slice (some ⟨bl, 0, none⟩) 4 4, .int .i64 0, .int .i64 0], .pointer (some ⟨bm, 0, none⟩), .agg #[.int .i64 4, .int .u32 0, .int .u32 10, .int .u32 0, .int .u32 0, .int .u32 0, .int .u32 0, .int .u32 0, .int .u32 0]] w fun e w' => e = .returned (.tuple #[.agg #[.int .i64 4, .int .u32 0, .int .u32 10, .int .u32 0, .int .u32 0, .int .u32 0, .int .u32 0, .int .u32 0, .int .u32 0], .agg #[.int .i64 4, .int .i64 1]]) ∧ Hp.Sh w0 w' ((g, (ints [0, 0, 10, 0]).toArray, 25) :: H) D := by
  have h := pstep bm g 4 [0, 0, 10, 0] 1 2 0 (some ⟨bl, 0, none⟩) 4 4 0 0 PvP.exC 4 [0, 10, 0, 0, 0, 0, 0, 0] w0 w H D sh hM (by decide) rfl (by decide) (by decide) rfl (by decide) (by decide) hC (by decide) rfl (PvP.regs PvP.ex_vm) PvP.ex_code
  rw [PvP.ex_step] at h
  exact h
theorem kran_answ (w : World) : Calls Try.prog 15 #[.agg #[.int .i64 4, .int .u32 0, .int .u32 10, .int .u32 0, .int .u32 0, .int .u32 0, .int .u32 0, .int .u32 0, .int .u32 0], .int .u32 3] w fun e w' => e = .returned (.agg #[.int .i64 4, .int .u32 3, .int .u32 10, .int .u32 0, .int .u32 0, .int .u32 0, .int .u32 0, .int .u32 0, .int .u32 0]) ∧ Below w.heap.size w w' := pansw 4 [0, 10, 0, 0, 0, 0, 0, 0] 3 rfl w
theorem kran_get (bm g bl : Nat) (w : World) (hM : RegP.MemIs bm g 4 w) (hR : Hp.RdV w (some ⟨g, 0, none⟩) (ints [0, 0, 10, 0])) : Calls Try.prog 24 #[.pointer (some ⟨bm, 0, none⟩), .agg #[.int .i64 1, .int .i64 2, .int .i64 0, .slice (some ⟨bl, 0, none⟩) 4 4, .int .i64 0, .int .i64 0], .int .i64 1] w fun e w' => e = .returned (.tuple #[.int .u32 10, .int .i64 0]) ∧ Below w.heap.size w w' := by
  have h := rget bm g 4 [0, 0, 10, 0] 1 2 0 (some ⟨bl, 0, none⟩) 4 4 0 0 1 w (by decide) (by decide) (by decide) (by decide) hM rfl hR
  rw [PvP.ex_get, PvP.ex_pc] at h
  exact h

set_option maxHeartbeats 4000000 in
set_option maxRecDepth 100000 in
theorem pran (w : World) : Calls Try.prog 10 #[] w fun e w' => e = .returned (.bool true) ∧ Below w.heap.size w w' := by
  have sh : Hp.Sh w w [] (fun _ => True) := Hp.Sh.start (fun _ _ => trivial)
  have HN := Lib.hid (fun w0 W H D sh => rnew_yes 4 w0 W H D sh (by decide) (by decide))
  have KR := Lib.hid (fun bm g bl W H D sh q1 q2 => kran_run bm g bl w W H D sh q1 q2)
  have KS := Lib.hid (fun bm g bl W H D sh q1 q2 => kran_step bm g bl w W H D sh q1 q2)
  have KG := Lib.hid (fun bm g bl W q1 q2 => kran_get bm g bl W q1 q2)
  have KA := Lib.hid (fun W => kran_answ W)
  have hq := vm_eqL 4 0 10 0 0 0 0 0 0
  have hf : ∀ W, (Instr.field 28 (.agg #[.int .i64 4, .int .u32 3, .int .u32 10, .int .u32 0, .int .u32 0, .int .u32 0, .int .u32 0, .int .u32 0, .int .u32 0]) 1).run Try.prog W = .ok (.agg #[.int .u32 3, .int .u32 10, .int .u32 0, .int .u32 0, .int .u32 0, .int .u32 0, .int .u32 0, .int .u32 0]) W := fun W => by kernel_rfl
  have hf2 : ∀ W, (Instr.index 26 (.agg #[.int .u32 3, .int .u32 10, .int .u32 0, .int .u32 0, .int .u32 0, .int .u32 0, .int .u32 0, .int .u32 0]) (.int .i64 0)).run Try.prog W = .ok (.int .u32 3) W := fun W => by kernel_rfl
  go_enter Try.func10, Try.ntmps10
  go_wp2_with (first
      | ((first | (with_reducible refine Hp.wpl_box sh ?_ ?_) | (with_reducible refine Hp.wpl_alloc Try.z_vmL sh ?_ ?_) | (with_reducible refine Hp.wpl_alloc Try.z_trap sh ?_ ?_) | (with_reducible refine Hp.wpl_alloc Try.z_insn sh ?_ ?_) | (with_reducible refine Hp.wpl_alloc Try.z_part sh ?_ ?_)); exact rfl; clear sh; (try clear F); go_simp; (first | intro b w1 sh); have F := sh.facts; (try simp only [Hp.Facts, Hp.CellsAt, Nat.reduceAdd, List.cons_append, List.nil_append] at F))
      | ((with_reducible refine Hp.atl_store ?_ ?_); exact rfl; (first | refine Hp.wp_store 0 sh rfl rfl rfl rfl (by kernel_rfl) (Nat.le_of_ble_eq_true rfl) rfl ?_ | refine Hp.wp_store 1 sh rfl rfl rfl rfl (by kernel_rfl) (Nat.le_of_ble_eq_true rfl) rfl ?_ | refine Hp.wp_store 2 sh rfl rfl rfl rfl (by kernel_rfl) (Nat.le_of_ble_eq_true rfl) rfl ?_ | refine Hp.wp_store 3 sh rfl rfl rfl rfl (by kernel_rfl) (Nat.le_of_ble_eq_true rfl) rfl ?_ | refine Hp.wp_store 4 sh rfl rfl rfl rfl (by kernel_rfl) (Nat.le_of_ble_eq_true rfl) rfl ?_ | refine Hp.wp_store 5 sh rfl rfl rfl rfl (by kernel_rfl) (Nat.le_of_ble_eq_true rfl) rfl ?_ | refine Hp.wp_store 6 sh rfl rfl rfl rfl (by kernel_rfl) (Nat.le_of_ble_eq_true rfl) rfl ?_); clear sh; (try clear F); go_simp; intro w1 sh; have F := sh.facts; (try simp only [Hp.Facts, Hp.CellsAt, Nat.reduceAdd, List.cons_append, List.nil_append] at F))
      | fail)
  go_fit (HN.out w _ _ _ sh); clear sh; rintro e w1 ⟨bm, g, rfl, sh⟩
  have F := sh.facts; (try simp only [Hp.Facts, Hp.CellsAt, Nat.reduceAdd, List.cons_append, List.nil_append] at F)
  have tok_b3 : True := trivial
  go_wp2_with (first
      | ((with_reducible refine Hp.atl_lit ?_ ?_); exact rfl; (refine Hp.wp_lit 4 [.int .u32 17825797, .int .u32 51445760, .int .u32 118620161, .int .u32 184549385] Try.i_u32 Try.underlying22 sh rfl rfl (by omega) rfl ?_); clear sh; (try clear F); intro b w1 sh; replace sh := sh.freeze1 (vs := [.int .u32 17825797, .int .u32 51445760, .int .u32 118620161, .int .u32 184549385]) (fun i v h => by simpa using h); have F := sh.facts; (try simp only [Hp.Facts, Hp.CellsAt, Nat.reduceAdd, List.cons_append, List.nil_append] at F); go_simp)
      | ((first | (with_reducible refine Hp.wpl_box sh ?_ ?_) | (with_reducible refine Hp.wpl_alloc Try.z_vmL sh ?_ ?_) | (with_reducible refine Hp.wpl_alloc Try.z_trap sh ?_ ?_) | (with_reducible refine Hp.wpl_alloc Try.z_insn sh ?_ ?_) | (with_reducible refine Hp.wpl_alloc Try.z_part sh ?_ ?_)); exact rfl; clear sh; (try clear F); go_simp; (first | (have tok := tok_b3; clear tok tok_b3; intro b3 w1 sh) | intro b w1 sh); have F := sh.facts; (try simp only [Hp.Facts, Hp.CellsAt, Nat.reduceAdd, List.cons_append, List.nil_append] at F))
      | ((with_reducible refine Hp.atl_store ?_ ?_); exact rfl; (first | refine Hp.wp_store 0 sh rfl rfl rfl rfl (by kernel_rfl) (Nat.le_of_ble_eq_true rfl) rfl ?_ | refine Hp.wp_store 1 sh rfl rfl rfl rfl (by kernel_rfl) (Nat.le_of_ble_eq_true rfl) rfl ?_ | refine Hp.wp_store 2 sh rfl rfl rfl rfl (by kernel_rfl) (Nat.le_of_ble_eq_true rfl) rfl ?_ | refine Hp.wp_store 3 sh rfl rfl rfl rfl (by kernel_rfl) (Nat.le_of_ble_eq_true rfl) rfl ?_ | refine Hp.wp_store 4 sh rfl rfl rfl rfl (by kernel_rfl) (Nat.le_of_ble_eq_true rfl) rfl ?_ | refine Hp.wp_store 5 sh rfl rfl rfl rfl (by kernel_rfl) (Nat.le_of_ble_eq_true rfl) rfl ?_ | refine Hp.wp_store 6 sh rfl rfl rfl rfl (by kernel_rfl) (Nat.le_of_ble_eq_true rfl) rfl ?_); clear sh; (try clear F); go_simp; intro w1 sh; have F := sh.facts; (try simp only [Hp.Facts, Hp.CellsAt, Nat.reduceAdd, List.cons_append, List.nil_append] at F))
      | fail)
  replace sh := sh.perm (swap2 _ _ _)
  go_fit (KR.out bm g b _ _ _ sh (fun W q => q.2) (fun W q => q.1))
  clear sh F
  rintro e w1 ⟨rfl, sh⟩
  have F := sh.facts; (try simp only [Hp.Facts, Hp.CellsAt, Nat.reduceAdd, List.cons_append, List.nil_append] at F)
  have tok_b4 : True := trivial
  have tok_b5 : True := trivial
  go_wp2_with (first
      | ((first | (with_reducible refine Hp.wpl_box sh ?_ ?_) | (with_reducible refine Hp.wpl_alloc Try.z_vmL sh ?_ ?_) | (with_reducible refine Hp.wpl_alloc Try.z_trap sh ?_ ?_) | (with_reducible refine Hp.wpl_alloc Try.z_insn sh ?_ ?_) | (with_reducible refine Hp.wpl_alloc Try.z_part sh ?_ ?_)); exact rfl; clear sh; (try clear F); go_simp; (first | (have tok := tok_b4; clear tok tok_b4; intro b4 w1 sh) | (have tok := tok_b5; clear tok tok_b5; intro b5 w1 sh) | intro b w1 sh); have F := sh.facts; (try simp only [Hp.Facts, Hp.CellsAt, Nat.reduceAdd, List.cons_append, List.nil_append] at F))
      | ((with_reducible refine Hp.atl_store ?_ ?_); exact rfl; (first | refine Hp.wp_store 0 sh rfl rfl rfl rfl (by kernel_rfl) (Nat.le_of_ble_eq_true rfl) rfl ?_ | refine Hp.wp_store 1 sh rfl rfl rfl rfl (by kernel_rfl) (Nat.le_of_ble_eq_true rfl) rfl ?_ | refine Hp.wp_store 2 sh rfl rfl rfl rfl (by kernel_rfl) (Nat.le_of_ble_eq_true rfl) rfl ?_ | refine Hp.wp_store 3 sh rfl rfl rfl rfl (by kernel_rfl) (Nat.le_of_ble_eq_true rfl) rfl ?_ | refine Hp.wp_store 4 sh rfl rfl rfl rfl (by kernel_rfl) (Nat.le_of_ble_eq_true rfl) rfl ?_ | refine Hp.wp_store 5 sh rfl rfl rfl rfl (by kernel_rfl) (Nat.le_of_ble_eq_true rfl) rfl ?_ | refine Hp.wp_store 6 sh rfl rfl rfl rfl (by kernel_rfl) (Nat.le_of_ble_eq_true rfl) rfl ?_); clear sh; (try clear F); go_simp; intro w1 sh; have F := sh.facts; (try simp only [Hp.Facts, Hp.CellsAt, Nat.reduceAdd, List.cons_append, List.nil_append] at F))
      | fail)
  go_fit (KG.out bm g b _ sh.data.2 (PvP.own_rdv sh 2 rfl))
  rintro e w1 ⟨rfl, hb9⟩; replace sh := sh.call hb9; clear hb9
  (try clear F); (have F := sh.facts; (try simp only [Hp.Facts, Hp.CellsAt, Nat.reduceAdd, List.cons_append, List.nil_append] at F))
  go_wp2_with (first
      | ((first | (with_reducible refine Hp.wpl_box sh ?_ ?_) | (with_reducible refine Hp.wpl_alloc Try.z_vmL sh ?_ ?_) | (with_reducible refine Hp.wpl_alloc Try.z_trap sh ?_ ?_) | (with_reducible refine Hp.wpl_alloc Try.z_insn sh ?_ ?_) | (with_reducible refine Hp.wpl_alloc Try.z_part sh ?_ ?_)); exact rfl; clear sh; (try clear F); go_simp; (first | intro b w1 sh); have F := sh.facts; (try simp only [Hp.Facts, Hp.CellsAt, Nat.reduceAdd, List.cons_append, List.nil_append] at F))
      | ((with_reducible refine Hp.atl_store ?_ ?_); exact rfl; (first | refine Hp.wp_store 0 sh rfl rfl rfl rfl (by kernel_rfl) (Nat.le_of_ble_eq_true rfl) rfl ?_ | refine Hp.wp_store 1 sh rfl rfl rfl rfl (by kernel_rfl) (Nat.le_of_ble_eq_true rfl) rfl ?_ | refine Hp.wp_store 2 sh rfl rfl rfl rfl (by kernel_rfl) (Nat.le_of_ble_eq_true rfl) rfl ?_ | refine Hp.wp_store 3 sh rfl rfl rfl rfl (by kernel_rfl) (Nat.le_of_ble_eq_true rfl) rfl ?_ | refine Hp.wp_store 4 sh rfl rfl rfl rfl (by kernel_rfl) (Nat.le_of_ble_eq_true rfl) rfl ?_ | refine Hp.wp_store 5 sh rfl rfl rfl rfl (by kernel_rfl) (Nat.le_of_ble_eq_true rfl) rfl ?_ | refine Hp.wp_store 6 sh rfl rfl rfl rfl (by kernel_rfl) (Nat.le_of_ble_eq_true rfl) rfl ?_); clear sh; (try clear F); go_simp; intro w1 sh; have F := sh.facts; (try simp only [Hp.Facts, Hp.CellsAt, Nat.reduceAdd, List.cons_append, List.nil_append] at F))
      | fail)
  replace sh : Hp.Sh w _ (_ :: _ :: _ :: _ :: []) _ := sh.perm (List.perm_middle (l₁ := [_, _]))
  go_fit (KS.out bm g b _ _ _ sh (fun W q => q.2) (fun W q => q.1))
  clear sh F
  rintro e w1 ⟨rfl, sh⟩
  have F := sh.facts; (try simp only [Hp.Facts, Hp.CellsAt, Nat.reduceAdd, List.cons_append, List.nil_append] at F)
  have tok_b9 : True := trivial
  have tok_b10 : True := trivial
  go_wp2_with (first
      | ((first | (with_reducible refine Hp.wpl_box sh ?_ ?_) | (with_reducible refine Hp.wpl_alloc Try.z_vmL sh ?_ ?_) | (with_reducible refine Hp.wpl_alloc Try.z_trap sh ?_ ?_) | (with_reducible refine Hp.wpl_alloc Try.z_insn sh ?_ ?_) | (with_reducible refine Hp.wpl_alloc Try.z_part sh ?_ ?_)); exact rfl; clear sh; (try clear F); go_simp; (first | (have tok := tok_b9; clear tok tok_b9; intro b9 w1 sh) | (have tok := tok_b10; clear tok tok_b10; intro b10 w1 sh) | intro b w1 sh); have F := sh.facts; (try simp only [Hp.Facts, Hp.CellsAt, Nat.reduceAdd, List.cons_append, List.nil_append] at F))
      | ((with_reducible refine Hp.atl_store ?_ ?_); exact rfl; (first | refine Hp.wp_store 0 sh rfl rfl rfl rfl (by kernel_rfl) (Nat.le_of_ble_eq_true rfl) rfl ?_ | refine Hp.wp_store 1 sh rfl rfl rfl rfl (by kernel_rfl) (Nat.le_of_ble_eq_true rfl) rfl ?_ | refine Hp.wp_store 2 sh rfl rfl rfl rfl (by kernel_rfl) (Nat.le_of_ble_eq_true rfl) rfl ?_ | refine Hp.wp_store 3 sh rfl rfl rfl rfl (by kernel_rfl) (Nat.le_of_ble_eq_true rfl) rfl ?_ | refine Hp.wp_store 4 sh rfl rfl rfl rfl (by kernel_rfl) (Nat.le_of_ble_eq_true rfl) rfl ?_ | refine Hp.wp_store 5 sh rfl rfl rfl rfl (by kernel_rfl) (Nat.le_of_ble_eq_true rfl) rfl ?_ | refine Hp.wp_store 6 sh rfl rfl rfl rfl (by kernel_rfl) (Nat.le_of_ble_eq_true rfl) rfl ?_); clear sh; (try clear F); go_simp; intro w1 sh; have F := sh.facts; (try simp only [Hp.Facts, Hp.CellsAt, Nat.reduceAdd, List.cons_append, List.nil_append] at F))
      | fail)
  go_fit (KA.out _)
  rintro e w1 ⟨rfl, hb9⟩; replace sh := sh.call hb9; clear hb9
  (try clear F); (have F := sh.facts; (try simp only [Hp.Facts, Hp.CellsAt, Nat.reduceAdd, List.cons_append, List.nil_append] at F))
  go_wp2_with (first
      | ((first | (with_reducible refine Hp.wpl_box sh ?_ ?_) | (with_reducible refine Hp.wpl_alloc Try.z_vmL sh ?_ ?_) | (with_reducible refine Hp.wpl_alloc Try.z_trap sh ?_ ?_) | (with_reducible refine Hp.wpl_alloc Try.z_insn sh ?_ ?_) | (with_reducible refine Hp.wpl_alloc Try.z_part sh ?_ ?_)); exact rfl; clear sh; (try clear F); go_simp; (first | intro b w1 sh); have F := sh.facts; (try simp only [Hp.Facts, Hp.CellsAt, Nat.reduceAdd, List.cons_append, List.nil_append] at F))
      | ((with_reducible refine Hp.atl_store ?_ ?_); exact rfl; (first | refine Hp.wp_store 0 sh rfl rfl rfl rfl (by kernel_rfl) (Nat.le_of_ble_eq_true rfl) rfl ?_ | refine Hp.wp_store 1 sh rfl rfl rfl rfl (by kernel_rfl) (Nat.le_of_ble_eq_true rfl) rfl ?_ | refine Hp.wp_store 2 sh rfl rfl rfl rfl (by kernel_rfl) (Nat.le_of_ble_eq_true rfl) rfl ?_ | refine Hp.wp_store 3 sh rfl rfl rfl rfl (by kernel_rfl) (Nat.le_of_ble_eq_true rfl) rfl ?_ | refine Hp.wp_store 4 sh rfl rfl rfl rfl (by kernel_rfl) (Nat.le_of_ble_eq_true rfl) rfl ?_ | refine Hp.wp_store 5 sh rfl rfl rfl rfl (by kernel_rfl) (Nat.le_of_ble_eq_true rfl) rfl ?_ | refine Hp.wp_store 6 sh rfl rfl rfl rfl (by kernel_rfl) (Nat.le_of_ble_eq_true rfl) rfl ?_); clear sh; (try clear F); go_simp; intro w1 sh; have F := sh.facts; (try simp only [Hp.Facts, Hp.CellsAt, Nat.reduceAdd, List.cons_append, List.nil_append] at F))
      | fail)
  go_ret
  exact ⟨rfl, sh.below⟩

set_option maxHeartbeats 4000000 in
set_option maxRecDepth 100000 in
theorem pbig (b z r : Int) (ks : Option Addr) (kn kc : Nat) (f ag : Int) (s : Option Addr) (m c : Nat) (hkl : kn ≤ 9223372036854775807) (hm : m ≤ 9223372036854775807) (w : World) :
    Calls Try.prog 9 #[.agg #[.int .i64 b, .int .i64 z, .int .i64 r, .slice ks kn kc, .int .i64 f, .int .i64 ag], .slice s m c] w fun e w' => e = .returned (.bool (decide (1000 < kn ∨ 5000 < m))) ∧ Below w.heap.size w w' := by
  have sh : Hp.Sh w w [] (fun _ => True) := Hp.Sh.start (fun _ _ => trivial)
  by_cases h1 : 1000 < kn
  · have h1I : (1000 : Int) < (kn : Int) := by omega
    rw [decide_eq_true (p := 1000 < kn ∨ 5000 < m) (.inl h1)]
    go_enter Try.func9, Try.ntmps9
    have F := sh.facts; (try simp only [Hp.Facts, Hp.CellsAt, Nat.reduceAdd, List.cons_append, List.nil_append] at F)
    go_wp2_with (first
        | ((first | (with_reducible refine Hp.wpl_box sh ?_ ?_) | (with_reducible refine Hp.wpl_alloc Try.z_vmL sh ?_ ?_) | (with_reducible refine Hp.wpl_alloc Try.z_trap sh ?_ ?_) | (with_reducible refine Hp.wpl_alloc Try.z_insn sh ?_ ?_) | (with_reducible refine Hp.wpl_alloc Try.z_part sh ?_ ?_)); exact rfl; clear sh; (try clear F); go_simp; (first | intro b w1 sh); have F := sh.facts; (try simp only [Hp.Facts, Hp.CellsAt, Nat.reduceAdd, List.cons_append, List.nil_append] at F))
        | ((with_reducible refine Hp.atl_store ?_ ?_); exact rfl; (first | refine Hp.wp_store 0 sh rfl rfl rfl rfl (by kernel_rfl) (Nat.le_of_ble_eq_true rfl) rfl ?_ | refine Hp.wp_store 1 sh rfl rfl rfl rfl (by kernel_rfl) (Nat.le_of_ble_eq_true rfl) rfl ?_ | refine Hp.wp_store 2 sh rfl rfl rfl rfl (by kernel_rfl) (Nat.le_of_ble_eq_true rfl) rfl ?_ | refine Hp.wp_store 3 sh rfl rfl rfl rfl (by kernel_rfl) (Nat.le_of_ble_eq_true rfl) rfl ?_ | refine Hp.wp_store 4 sh rfl rfl rfl rfl (by kernel_rfl) (Nat.le_of_ble_eq_true rfl) rfl ?_ | refine Hp.wp_store 5 sh rfl rfl rfl rfl (by kernel_rfl) (Nat.le_of_ble_eq_true rfl) rfl ?_ | refine Hp.wp_store 6 sh rfl rfl rfl rfl (by kernel_rfl) (Nat.le_of_ble_eq_true rfl) rfl ?_); clear sh; (try clear F); go_simp; intro w1 sh; have F := sh.facts; (try simp only [Hp.Facts, Hp.CellsAt, Nat.reduceAdd, List.cons_append, List.nil_append] at F))
        | fail)
    go_ret
    exact ⟨rfl, sh.below⟩
  · have h1I : ¬ (1000 : Int) < (kn : Int) := by omega
    by_cases h2 : 5000 < m
    · have h2I : (5000 : Int) < (m : Int) := by omega
      rw [decide_eq_true (p := 1000 < kn ∨ 5000 < m) (.inr h2)]
      go_enter Try.func9, Try.ntmps9
      have F := sh.facts; (try simp only [Hp.Facts, Hp.CellsAt, Nat.reduceAdd, List.cons_append, List.nil_append] at F)
      go_wp2_with (first
          | ((first | (with_reducible refine Hp.wpl_box sh ?_ ?_) | (with_reducible refine Hp.wpl_alloc Try.z_vmL sh ?_ ?_) | (with_reducible refine Hp.wpl_alloc Try.z_trap sh ?_ ?_) | (with_reducible refine Hp.wpl_alloc Try.z_insn sh ?_ ?_) | (with_reducible refine Hp.wpl_alloc Try.z_part sh ?_ ?_)); exact rfl; clear sh; (try clear F); go_simp; (first | intro b w1 sh); have F := sh.facts; (try simp only [Hp.Facts, Hp.CellsAt, Nat.reduceAdd, List.cons_append, List.nil_append] at F))
          | ((with_reducible refine Hp.atl_store ?_ ?_); exact rfl; (first | refine Hp.wp_store 0 sh rfl rfl rfl rfl (by kernel_rfl) (Nat.le_of_ble_eq_true rfl) rfl ?_ | refine Hp.wp_store 1 sh rfl rfl rfl rfl (by kernel_rfl) (Nat.le_of_ble_eq_true rfl) rfl ?_ | refine Hp.wp_store 2 sh rfl rfl rfl rfl (by kernel_rfl) (Nat.le_of_ble_eq_true rfl) rfl ?_ | refine Hp.wp_store 3 sh rfl rfl rfl rfl (by kernel_rfl) (Nat.le_of_ble_eq_true rfl) rfl ?_ | refine Hp.wp_store 4 sh rfl rfl rfl rfl (by kernel_rfl) (Nat.le_of_ble_eq_true rfl) rfl ?_ | refine Hp.wp_store 5 sh rfl rfl rfl rfl (by kernel_rfl) (Nat.le_of_ble_eq_true rfl) rfl ?_ | refine Hp.wp_store 6 sh rfl rfl rfl rfl (by kernel_rfl) (Nat.le_of_ble_eq_true rfl) rfl ?_); clear sh; (try clear F); go_simp; intro w1 sh; have F := sh.facts; (try simp only [Hp.Facts, Hp.CellsAt, Nat.reduceAdd, List.cons_append, List.nil_append] at F))
          | fail)
      go_ret
      exact ⟨rfl, sh.below⟩
    · have h2I : ¬ (5000 : Int) < (m : Int) := by omega
      rw [decide_eq_false (p := 1000 < kn ∨ 5000 < m) (by omega)]
      go_enter Try.func9, Try.ntmps9
      have F := sh.facts; (try simp only [Hp.Facts, Hp.CellsAt, Nat.reduceAdd, List.cons_append, List.nil_append] at F)
      go_wp2_with (first
          | ((first | (with_reducible refine Hp.wpl_box sh ?_ ?_) | (with_reducible refine Hp.wpl_alloc Try.z_vmL sh ?_ ?_) | (with_reducible refine Hp.wpl_alloc Try.z_trap sh ?_ ?_) | (with_reducible refine Hp.wpl_alloc Try.z_insn sh ?_ ?_) | (with_reducible refine Hp.wpl_alloc Try.z_part sh ?_ ?_)); exact rfl; clear sh; (try clear F); go_simp; (first | intro b w1 sh); have F := sh.facts; (try simp only [Hp.Facts, Hp.CellsAt, Nat.reduceAdd, List.cons_append, List.nil_append] at F))
          | ((with_reducible refine Hp.atl_store ?_ ?_); exact rfl; (first | refine Hp.wp_store 0 sh rfl rfl rfl rfl (by kernel_rfl) (Nat.le_of_ble_eq_true rfl) rfl ?_ | refine Hp.wp_store 1 sh rfl rfl rfl rfl (by kernel_rfl) (Nat.le_of_ble_eq_true rfl) rfl ?_ | refine Hp.wp_store 2 sh rfl rfl rfl rfl (by kernel_rfl) (Nat.le_of_ble_eq_true rfl) rfl ?_ | refine Hp.wp_store 3 sh rfl rfl rfl rfl (by kernel_rfl) (Nat.le_of_ble_eq_true rfl) rfl ?_ | refine Hp.wp_store 4 sh rfl rfl rfl rfl (by kernel_rfl) (Nat.le_of_ble_eq_true rfl) rfl ?_ | refine Hp.wp_store 5 sh rfl rfl rfl rfl (by kernel_rfl) (Nat.le_of_ble_eq_true rfl) rfl ?_ | refine Hp.wp_store 6 sh rfl rfl rfl rfl (by kernel_rfl) (Nat.le_of_ble_eq_true rfl) rfl ?_); clear sh; (try clear F); go_simp; intro w1 sh; have F := sh.facts; (try simp only [Hp.Facts, Hp.CellsAt, Nat.reduceAdd, List.cons_append, List.nil_append] at F))
          | fail)
      go_ret
      exact ⟨rfl, sh.below⟩

def PvP.firstW (n : Nat) (l : List Int) : List Int := RegP.layW n (List.replicate n 0) 0 n 0 l
def PvP.MemP (n : Nat) (ws : List Int) (w0 : World) (H : List Hp.Blk) (D : World → Prop) (e : Ending) (w' : World) : Prop := ∃ bm g bn h, e = .returned (.tuple #[.pointer (some ⟨bm, 0, none⟩), .pointer (some ⟨bn, 0, none⟩)]) ∧ Hp.Sh w0 w' ((g, (ints ws).toArray, 25) :: (h, (ints ws).toArray, 25) :: H) (fun W => RegP.MemIs bm g n W ∧ RegP.MemIs bn h n W ∧ D W)
set_option maxHeartbeats 4000000 in
set_option maxRecDepth 100000 in
theorem pmem_no (x : Int) (s : Option Addr) (m c : Nat) (w : World) (h : x < 1 ∨ 4096 < x) :
    Calls Try.prog 8 #[.int .i64 x, .slice s m c] w fun e w' => e = .returned (.tuple #[.pointer none, .pointer none]) ∧ Below w.heap.size w w' := by
  have sh : Hp.Sh w w [] (fun _ => True) := Hp.Sh.start (fun _ _ => trivial)
  have HN := Lib.hid (fun W => rnew_no x W h)
  have HR := Lib.hid (fun W => rrnew_no x W h)
  clear h
  go_enter Try.func8, Try.ntmps8
  have F := sh.facts; (try simp only [Hp.Facts, Hp.CellsAt, Nat.reduceAdd, List.cons_append, List.nil_append] at F)
  go_wp2_with (first
      | ((first | (with_reducible refine Hp.wpl_box sh ?_ ?_) | (with_reducible refine Hp.wpl_alloc Try.z_vmL sh ?_ ?_) | (with_reducible refine Hp.wpl_alloc Try.z_trap sh ?_ ?_) | (with_reducible refine Hp.wpl_alloc Try.z_insn sh ?_ ?_) | (with_reducible refine Hp.wpl_alloc Try.z_part sh ?_ ?_)); exact rfl; clear sh; (try clear F); go_simp; (first | intro b w1 sh); have F := sh.facts; (try simp only [Hp.Facts, Hp.CellsAt, Nat.reduceAdd, List.cons_append, List.nil_append] at F))
      | ((with_reducible refine Hp.atl_store ?_ ?_); exact rfl; (first | refine Hp.wp_store 0 sh rfl rfl rfl rfl (by kernel_rfl) (Nat.le_of_ble_eq_true rfl) rfl ?_ | refine Hp.wp_store 1 sh rfl rfl rfl rfl (by kernel_rfl) (Nat.le_of_ble_eq_true rfl) rfl ?_ | refine Hp.wp_store 2 sh rfl rfl rfl rfl (by kernel_rfl) (Nat.le_of_ble_eq_true rfl) rfl ?_ | refine Hp.wp_store 3 sh rfl rfl rfl rfl (by kernel_rfl) (Nat.le_of_ble_eq_true rfl) rfl ?_ | refine Hp.wp_store 4 sh rfl rfl rfl rfl (by kernel_rfl) (Nat.le_of_ble_eq_true rfl) rfl ?_ | refine Hp.wp_store 5 sh rfl rfl rfl rfl (by kernel_rfl) (Nat.le_of_ble_eq_true rfl) rfl ?_ | refine Hp.wp_store 6 sh rfl rfl rfl rfl (by kernel_rfl) (Nat.le_of_ble_eq_true rfl) rfl ?_); clear sh; (try clear F); go_simp; intro w1 sh; have F := sh.facts; (try simp only [Hp.Facts, Hp.CellsAt, Nat.reduceAdd, List.cons_append, List.nil_append] at F))
      | fail)
  go_fit (HN.out _)
  rintro e w1 ⟨rfl, hb⟩
  replace sh := sh.call hb; clear hb; (try clear F); have F := sh.facts; (try simp only [Hp.Facts, Hp.CellsAt, Nat.reduceAdd, List.cons_append, List.nil_append] at F)
  go_wp2_with (first
      | ((first | (with_reducible refine Hp.wpl_box sh ?_ ?_) | (with_reducible refine Hp.wpl_alloc Try.z_vmL sh ?_ ?_) | (with_reducible refine Hp.wpl_alloc Try.z_trap sh ?_ ?_) | (with_reducible refine Hp.wpl_alloc Try.z_insn sh ?_ ?_) | (with_reducible refine Hp.wpl_alloc Try.z_part sh ?_ ?_)); exact rfl; clear sh; (try clear F); go_simp; (first | intro b w1 sh); have F := sh.facts; (try simp only [Hp.Facts, Hp.CellsAt, Nat.reduceAdd, List.cons_append, List.nil_append] at F))
      | ((with_reducible refine Hp.atl_store ?_ ?_); exact rfl; (first | refine Hp.wp_store 0 sh rfl rfl rfl rfl (by kernel_rfl) (Nat.le_of_ble_eq_true rfl) rfl ?_ | refine Hp.wp_store 1 sh rfl rfl rfl rfl (by kernel_rfl) (Nat.le_of_ble_eq_true rfl) rfl ?_ | refine Hp.wp_store 2 sh rfl rfl rfl rfl (by kernel_rfl) (Nat.le_of_ble_eq_true rfl) rfl ?_ | refine Hp.wp_store 3 sh rfl rfl rfl rfl (by kernel_rfl) (Nat.le_of_ble_eq_true rfl) rfl ?_ | refine Hp.wp_store 4 sh rfl rfl rfl rfl (by kernel_rfl) (Nat.le_of_ble_eq_true rfl) rfl ?_ | refine Hp.wp_store 5 sh rfl rfl rfl rfl (by kernel_rfl) (Nat.le_of_ble_eq_true rfl) rfl ?_ | refine Hp.wp_store 6 sh rfl rfl rfl rfl (by kernel_rfl) (Nat.le_of_ble_eq_true rfl) rfl ?_); clear sh; (try clear F); go_simp; intro w1 sh; have F := sh.facts; (try simp only [Hp.Facts, Hp.CellsAt, Nat.reduceAdd, List.cons_append, List.nil_append] at F))
      | fail)
  go_fit (HR.out _)
  rintro e w1 ⟨rfl, hb⟩
  replace sh := sh.call hb; clear hb; (try clear F); have F := sh.facts; (try simp only [Hp.Facts, Hp.CellsAt, Nat.reduceAdd, List.cons_append, List.nil_append] at F)
  go_wp2_with (first
      | ((first | (with_reducible refine Hp.wpl_box sh ?_ ?_) | (with_reducible refine Hp.wpl_alloc Try.z_vmL sh ?_ ?_) | (with_reducible refine Hp.wpl_alloc Try.z_trap sh ?_ ?_) | (with_reducible refine Hp.wpl_alloc Try.z_insn sh ?_ ?_) | (with_reducible refine Hp.wpl_alloc Try.z_part sh ?_ ?_)); exact rfl; clear sh; (try clear F); go_simp; (first | intro b w1 sh); have F := sh.facts; (try simp only [Hp.Facts, Hp.CellsAt, Nat.reduceAdd, List.cons_append, List.nil_append] at F))
      | ((with_reducible refine Hp.atl_store ?_ ?_); exact rfl; (first | refine Hp.wp_store 0 sh rfl rfl rfl rfl (by kernel_rfl) (Nat.le_of_ble_eq_true rfl) rfl ?_ | refine Hp.wp_store 1 sh rfl rfl rfl rfl (by kernel_rfl) (Nat.le_of_ble_eq_true rfl) rfl ?_ | refine Hp.wp_store 2 sh rfl rfl rfl rfl (by kernel_rfl) (Nat.le_of_ble_eq_true rfl) rfl ?_ | refine Hp.wp_store 3 sh rfl rfl rfl rfl (by kernel_rfl) (Nat.le_of_ble_eq_true rfl) rfl ?_ | refine Hp.wp_store 4 sh rfl rfl rfl rfl (by kernel_rfl) (Nat.le_of_ble_eq_true rfl) rfl ?_ | refine Hp.wp_store 5 sh rfl rfl rfl rfl (by kernel_rfl) (Nat.le_of_ble_eq_true rfl) rfl ?_ | refine Hp.wp_store 6 sh rfl rfl rfl rfl (by kernel_rfl) (Nat.le_of_ble_eq_true rfl) rfl ?_); clear sh; (try clear F); go_simp; intro w1 sh; have F := sh.facts; (try simp only [Hp.Facts, Hp.CellsAt, Nat.reduceAdd, List.cons_append, List.nil_append] at F))
      | fail)
  go_ret2
  exact ⟨rfl, sh.below⟩
set_option maxHeartbeats 4000000 in
set_option maxRecDepth 100000 in
theorem pmem_yes (n : Nat) (fs : Option Addr) (l : List Int) (fn fc : Nat) (w0 w : World) (H : List Hp.Blk) (D : World → Prop) (sh : Hp.Sh w0 w H D) (h1 : 1 ≤ n) (h2 : n ≤ 4096) (hF : ∀ W, D W → Hp.RdV W fs (ints l)) (hfn : fn = l.length) (hfm : fn ≤ 9223372036854775807) :
    Calls Try.prog 8 #[.int .i64 n, .slice fs fn fc] w fun e w' => PvP.MemP n (PvP.firstW n l) w0 H D e w' := by
  have HN := Lib.hid (fun w0 W H D sh => rnew_yes n w0 W H D sh h1 h2)
  have HR := Lib.hid (fun w0 W H D sh => rrnew_yes n w0 W H D sh h1 h2)
  have HL := Lib.hid (fun bm g W H D sh q1 q2 => rlay bm g n (List.replicate n 0) 0 n 0 none 0 0 0 0 0 fs l fn fc w0 W H D sh q1 (by omega) (by simp) (by omega) (by omega) (by omega) hfn hfm q2)
  have HL2 := Lib.hid (fun bm g W H D sh q1 q2 => rrlay bm g n (List.replicate n 0) 0 n 0 none 0 0 0 0 0 fs l fn fc w0 W H D sh q1 (by omega) (by simp) (by omega) (by omega) (by omega) (by omega) hfn hfm q2)
  have HF := Lib.hid hF
  clear hF hfn hfm
  go_enter Try.func8, Try.ntmps8
  have F := sh.facts; (try simp only [Hp.Facts, Hp.CellsAt, Nat.reduceAdd, List.cons_append, List.nil_append] at F)
  go_wp2_with (first
      | ((first | (with_reducible refine Hp.wpl_box sh ?_ ?_) | (with_reducible refine Hp.wpl_alloc Try.z_vmL sh ?_ ?_) | (with_reducible refine Hp.wpl_alloc Try.z_trap sh ?_ ?_) | (with_reducible refine Hp.wpl_alloc Try.z_insn sh ?_ ?_) | (with_reducible refine Hp.wpl_alloc Try.z_part sh ?_ ?_)); exact rfl; clear sh; (try clear F); go_simp; (first | intro b w1 sh); have F := sh.facts; (try simp only [Hp.Facts, Hp.CellsAt, Nat.reduceAdd, List.cons_append, List.nil_append] at F))
      | ((with_reducible refine Hp.atl_store ?_ ?_); exact rfl; (first | refine Hp.wp_store 0 sh rfl rfl rfl rfl (by kernel_rfl) (Nat.le_of_ble_eq_true rfl) rfl ?_ | refine Hp.wp_store 1 sh rfl rfl rfl rfl (by kernel_rfl) (Nat.le_of_ble_eq_true rfl) rfl ?_ | refine Hp.wp_store 2 sh rfl rfl rfl rfl (by kernel_rfl) (Nat.le_of_ble_eq_true rfl) rfl ?_ | refine Hp.wp_store 3 sh rfl rfl rfl rfl (by kernel_rfl) (Nat.le_of_ble_eq_true rfl) rfl ?_ | refine Hp.wp_store 4 sh rfl rfl rfl rfl (by kernel_rfl) (Nat.le_of_ble_eq_true rfl) rfl ?_ | refine Hp.wp_store 5 sh rfl rfl rfl rfl (by kernel_rfl) (Nat.le_of_ble_eq_true rfl) rfl ?_ | refine Hp.wp_store 6 sh rfl rfl rfl rfl (by kernel_rfl) (Nat.le_of_ble_eq_true rfl) rfl ?_); clear sh; (try clear F); go_simp; intro w1 sh; have F := sh.facts; (try simp only [Hp.Facts, Hp.CellsAt, Nat.reduceAdd, List.cons_append, List.nil_append] at F))
      | fail)
  go_fit (HN.out w0 _ _ _ sh); clear sh F; rintro e w1 ⟨bm, g, rfl, sh⟩
  have F := sh.facts; (try simp only [Hp.Facts, Hp.CellsAt, Nat.reduceAdd, List.cons_append, List.nil_append] at F)
  go_wp2_with (first
      | ((first | (with_reducible refine Hp.wpl_box sh ?_ ?_) | (with_reducible refine Hp.wpl_alloc Try.z_vmL sh ?_ ?_) | (with_reducible refine Hp.wpl_alloc Try.z_trap sh ?_ ?_) | (with_reducible refine Hp.wpl_alloc Try.z_insn sh ?_ ?_) | (with_reducible refine Hp.wpl_alloc Try.z_part sh ?_ ?_)); exact rfl; clear sh; (try clear F); go_simp; (first | intro b w1 sh); have F := sh.facts; (try simp only [Hp.Facts, Hp.CellsAt, Nat.reduceAdd, List.cons_append, List.nil_append] at F))
      | ((with_reducible refine Hp.atl_store ?_ ?_); exact rfl; (first | refine Hp.wp_store 0 sh rfl rfl rfl rfl (by kernel_rfl) (Nat.le_of_ble_eq_true rfl) rfl ?_ | refine Hp.wp_store 1 sh rfl rfl rfl rfl (by kernel_rfl) (Nat.le_of_ble_eq_true rfl) rfl ?_ | refine Hp.wp_store 2 sh rfl rfl rfl rfl (by kernel_rfl) (Nat.le_of_ble_eq_true rfl) rfl ?_ | refine Hp.wp_store 3 sh rfl rfl rfl rfl (by kernel_rfl) (Nat.le_of_ble_eq_true rfl) rfl ?_ | refine Hp.wp_store 4 sh rfl rfl rfl rfl (by kernel_rfl) (Nat.le_of_ble_eq_true rfl) rfl ?_ | refine Hp.wp_store 5 sh rfl rfl rfl rfl (by kernel_rfl) (Nat.le_of_ble_eq_true rfl) rfl ?_ | refine Hp.wp_store 6 sh rfl rfl rfl rfl (by kernel_rfl) (Nat.le_of_ble_eq_true rfl) rfl ?_); clear sh; (try clear F); go_simp; intro w1 sh; have F := sh.facts; (try simp only [Hp.Facts, Hp.CellsAt, Nat.reduceAdd, List.cons_append, List.nil_append] at F))
      | fail)
  go_fit (HR.out w0 _ _ _ sh); clear sh F; rintro e w1 ⟨bn, h, rfl, sh⟩
  replace sh := sh.perm (swap2 _ _ _)
  have F := sh.facts; (try simp only [Hp.Facts, Hp.CellsAt, Nat.reduceAdd, List.cons_append, List.nil_append] at F)
  go_wp2_with (first
      | ((first | (with_reducible refine Hp.wpl_box sh ?_ ?_) | (with_reducible refine Hp.wpl_alloc Try.z_vmL sh ?_ ?_) | (with_reducible refine Hp.wpl_alloc Try.z_trap sh ?_ ?_) | (with_reducible refine Hp.wpl_alloc Try.z_insn sh ?_ ?_) | (with_reducible refine Hp.wpl_alloc Try.z_part sh ?_ ?_)); exact rfl; clear sh; (try clear F); go_simp; (first | intro b w1 sh); have F := sh.facts; (try simp only [Hp.Facts, Hp.CellsAt, Nat.reduceAdd, List.cons_append, List.nil_append] at F))
      | ((with_reducible refine Hp.atl_store ?_ ?_); exact rfl; (first | refine Hp.wp_store 0 sh rfl rfl rfl rfl (by kernel_rfl) (Nat.le_of_ble_eq_true rfl) rfl ?_ | refine Hp.wp_store 1 sh rfl rfl rfl rfl (by kernel_rfl) (Nat.le_of_ble_eq_true rfl) rfl ?_ | refine Hp.wp_store 2 sh rfl rfl rfl rfl (by kernel_rfl) (Nat.le_of_ble_eq_true rfl) rfl ?_ | refine Hp.wp_store 3 sh rfl rfl rfl rfl (by kernel_rfl) (Nat.le_of_ble_eq_true rfl) rfl ?_ | refine Hp.wp_store 4 sh rfl rfl rfl rfl (by kernel_rfl) (Nat.le_of_ble_eq_true rfl) rfl ?_ | refine Hp.wp_store 5 sh rfl rfl rfl rfl (by kernel_rfl) (Nat.le_of_ble_eq_true rfl) rfl ?_ | refine Hp.wp_store 6 sh rfl rfl rfl rfl (by kernel_rfl) (Nat.le_of_ble_eq_true rfl) rfl ?_); clear sh; (try clear F); go_simp; intro w1 sh; have F := sh.facts; (try simp only [Hp.Facts, Hp.CellsAt, Nat.reduceAdd, List.cons_append, List.nil_append] at F))
      | fail)
  go_fit (HL.out bm g _ _ _ sh (fun W q => q.2.1) (fun W q => HF.out _ q.2.2)); clear sh F; rintro e w1 ⟨rfl, sh⟩
  replace sh := sh.perm (swap2 _ _ _)
  have F := sh.facts; (try simp only [Hp.Facts, Hp.CellsAt, Nat.reduceAdd, List.cons_append, List.nil_append] at F)
  go_wp2_with (first
      | ((first | (with_reducible refine Hp.wpl_box sh ?_ ?_) | (with_reducible refine Hp.wpl_alloc Try.z_vmL sh ?_ ?_) | (with_reducible refine Hp.wpl_alloc Try.z_trap sh ?_ ?_) | (with_reducible refine Hp.wpl_alloc Try.z_insn sh ?_ ?_) | (with_reducible refine Hp.wpl_alloc Try.z_part sh ?_ ?_)); exact rfl; clear sh; (try clear F); go_simp; (first | intro b w1 sh); have F := sh.facts; (try simp only [Hp.Facts, Hp.CellsAt, Nat.reduceAdd, List.cons_append, List.nil_append] at F))
      | ((with_reducible refine Hp.atl_store ?_ ?_); exact rfl; (first | refine Hp.wp_store 0 sh rfl rfl rfl rfl (by kernel_rfl) (Nat.le_of_ble_eq_true rfl) rfl ?_ | refine Hp.wp_store 1 sh rfl rfl rfl rfl (by kernel_rfl) (Nat.le_of_ble_eq_true rfl) rfl ?_ | refine Hp.wp_store 2 sh rfl rfl rfl rfl (by kernel_rfl) (Nat.le_of_ble_eq_true rfl) rfl ?_ | refine Hp.wp_store 3 sh rfl rfl rfl rfl (by kernel_rfl) (Nat.le_of_ble_eq_true rfl) rfl ?_ | refine Hp.wp_store 4 sh rfl rfl rfl rfl (by kernel_rfl) (Nat.le_of_ble_eq_true rfl) rfl ?_ | refine Hp.wp_store 5 sh rfl rfl rfl rfl (by kernel_rfl) (Nat.le_of_ble_eq_true rfl) rfl ?_ | refine Hp.wp_store 6 sh rfl rfl rfl rfl (by kernel_rfl) (Nat.le_of_ble_eq_true rfl) rfl ?_); clear sh; (try clear F); go_simp; intro w1 sh; have F := sh.facts; (try simp only [Hp.Facts, Hp.CellsAt, Nat.reduceAdd, List.cons_append, List.nil_append] at F))
      | fail)
  go_fit (HL2.out bn h _ _ _ sh (fun W q => q.1) (fun W q => HF.out _ q.2.2)); clear sh F; rintro e w1 ⟨rfl, sh⟩
  replace sh := sh.perm (swap2 _ _ _)
  have F := sh.facts; (try simp only [Hp.Facts, Hp.CellsAt, Nat.reduceAdd, List.cons_append, List.nil_append] at F)
  go_wp2_with (first
      | ((first | (with_reducible refine Hp.wpl_box sh ?_ ?_) | (with_reducible refine Hp.wpl_alloc Try.z_vmL sh ?_ ?_) | (with_reducible refine Hp.wpl_alloc Try.z_trap sh ?_ ?_) | (with_reducible refine Hp.wpl_alloc Try.z_insn sh ?_ ?_) | (with_reducible refine Hp.wpl_alloc Try.z_part sh ?_ ?_)); exact rfl; clear sh; (try clear F); go_simp; (first | intro b w1 sh); have F := sh.facts; (try simp only [Hp.Facts, Hp.CellsAt, Nat.reduceAdd, List.cons_append, List.nil_append] at F))
      | ((with_reducible refine Hp.atl_store ?_ ?_); exact rfl; (first | refine Hp.wp_store 0 sh rfl rfl rfl rfl (by kernel_rfl) (Nat.le_of_ble_eq_true rfl) rfl ?_ | refine Hp.wp_store 1 sh rfl rfl rfl rfl (by kernel_rfl) (Nat.le_of_ble_eq_true rfl) rfl ?_ | refine Hp.wp_store 2 sh rfl rfl rfl rfl (by kernel_rfl) (Nat.le_of_ble_eq_true rfl) rfl ?_ | refine Hp.wp_store 3 sh rfl rfl rfl rfl (by kernel_rfl) (Nat.le_of_ble_eq_true rfl) rfl ?_ | refine Hp.wp_store 4 sh rfl rfl rfl rfl (by kernel_rfl) (Nat.le_of_ble_eq_true rfl) rfl ?_ | refine Hp.wp_store 5 sh rfl rfl rfl rfl (by kernel_rfl) (Nat.le_of_ble_eq_true rfl) rfl ?_ | refine Hp.wp_store 6 sh rfl rfl rfl rfl (by kernel_rfl) (Nat.le_of_ble_eq_true rfl) rfl ?_); clear sh; (try clear F); go_simp; intro w1 sh; have F := sh.facts; (try simp only [Hp.Facts, Hp.CellsAt, Nat.reduceAdd, List.cons_append, List.nil_append] at F))
      | fail)
  go_ret2
  exact ⟨bm, g, bn, h, rfl, sh.imp fun W q => ⟨q.2.1, q.1, q.2.2⟩⟩

end Go.Proofs.Ytfioeliejblboaa