
/-
  The walk of the reference's Clash.
-/
import Derived.Test.YtfcffglgkblidaaDoorChn3
import Derived.Test.YtfcffglgkblidaaDoorChn4
namespace Go.Proofs.YtfcffglgkblidaaDoor
open Go.RowKit
set_option linter.unusedVariables false
set_option linter.unusedSimpArgs false
set_option maxHeartbeats 4000000 in
set_option maxRecDepth 100000 in
theorem crclash (s1 s2 : Option Addr) (n m c1 c2 : Nat) (A B : List (List UInt8)) (hn : n = A.length) (hm : m = B.length) (hnn : n ≤ 100) (hmm : m ≤ 100) (hA : ∀ t ∈ A, t.length ≤ 40000) (hB : ∀ t ∈ B, t.length ≤ 40000) (w : World) (hR : Hp.RdV w s1 (A.map ChnP.txc)) (hR2 : Hp.RdV w s2 (B.map ChnP.txc)) :
    Calls Tryd.prog 18 #[.slice s1 n c1, .slice s2 m c2] w fun e w' => e = .returned (ChnP.claV (ChnP.clash A.reverse B.reverse)) ∧ Below w.heap.size w w' := by
  have sh := (Hp.Sh.start ((RdV_rob hR).and (RdV_rob hR2)) : Hp.Sh w w [] (fun W => Hp.RdV W s1 (A.map ChnP.txc) ∧ Hp.RdV W s2 (B.map ChnP.txc)))
  have HN := Lib.hid hn.symm
  have HM := Lib.hid hm.symm
  have HA := Lib.hid hA
  have HB := Lib.hid hB
  have HX0 := Lib.hid (show ChnP.clash A.reverse B.reverse = ChnP.clash (A.reverse.drop 0) (B.reverse.drop 0) from rfl)
  clear hn hm hR hR2 hA hB
  go_enter Tryd.func18, Tryd.ntmps18
  have F := sh.facts; (try simp only [Hp.Facts, Hp.CellsAt, BatP.cellsAt_bt, BatP.cellsAt_bt, Nat.reduceAdd, Hp.c1, Hp.c2] at F)
  go_wp2_with (first
      | ((with_reducible first | refine Hp.wpl_box sh ?_ ?_ | refine Hp.wpl_alloc Tryd.z_bt sh ?_ ?_ | refine Hp.wpl_alloc Tryd.z_dg sh ?_ ?_ | refine Hp.atl_store ?_ ?_); exact rfl; (try (apply Hp.wsA _ _ _ sh; exact rfl; (iterate 8 try first | exact Hp.az | apply Hp.aw); rfl; kernel_rfl)); clear sh; (try clear F); go_simp; (first | intro b w1 sh | intro w1 sh); have F := sh.facts; (try simp only [Hp.Facts, Hp.CellsAt, BatP.cellsAt_bt, BatP.cellsAt_bt, Nat.reduceAdd, Hp.c1, Hp.c2] at F))
      | fail)
  go_loopw [7] (fun i wr => ∃ (j : Nat), i = .int .i64 ((j + 1 : Nat) : Int) ∧ j ≤ n ∧ j ≤ m ∧ Hid (ChnP.clash A.reverse B.reverse = ChnP.clash (A.reverse.drop j) (B.reverse.drop j)) ∧ Hp.Sh w wr [] (fun W => Hp.RdV W s1 (A.map ChnP.txc) ∧ Hp.RdV W s2 (B.map ChnP.txc))) (fun i _ => (n + 1) - (intOf i).toNat)
  case atStart => exact ⟨0, by first | rfl | go_num, by omega, by omega, HX0, sh⟩
  case round =>
    clear sh F HX0
    obtain ⟨j, rfl, hjn, hjm, HX, sh⟩ := hrel
    by_cases hlt : j < n ∧ j < m
    · obtain ⟨hln, hlm⟩ := hlt
      have hjA : j < A.length := by rw [HN.out]; exact hln
      have hjB : j < B.length := by rw [HM.out]; exact hlm
      obtain ⟨p1, hp1, -⟩ := sh.data.1 (by rw [List.length_map]; omega)
      obtain ⟨p2, hp2, -⟩ := sh.data.2 (by rw [List.length_map]; omega)
      subst hp1 hp2
      obtain ⟨x, hx⟩ : ∃ t, A[A.length - 1 - j]'(by omega) = t := ⟨_, rfl⟩
      obtain ⟨y, hy⟩ : ∃ t, B[B.length - 1 - j]'(by omega) = t := ⟨_, rfl⟩
      have HC1 := Lib.hid (fun W (q : Hp.RdV W (some p1) (A.map ChnP.txc)) => ChnP.tx_cell q (by omega) hx)
      have HC2 := Lib.hid (fun W (q : Hp.RdV W (some p2) (B.map ChnP.txc)) => ChnP.tx_cell q (by omega) hy)
      have hlx : x.length ≤ 40000 := by rw [← hx]; exact HA.out _ (List.getElem_mem _)
      have hly : y.length ≤ 40000 := by rw [← hy]; exact HB.out _ (List.getElem_mem _)
      have hxr := ChnP.rev_drop hjA
      have hyr := ChnP.rev_drop hjB
      rw [hx] at hxr
      rw [hy] at hyr
      rw [hxr, hyr] at HX
      rw [HN.out] at HC1
      rw [HM.out] at HC2
      have z1 : IntKind.i64.wrap ((n : Int) - ((j + 1 : Nat) : Int)) = ((n - 1 - j : Nat) : Int) := by rw [IntWalk.i64_in _ (by omega)]; omega
      have z2 : IntKind.i64.wrap ((m : Int) - ((j + 1 : Nat) : Int)) = ((m - 1 - j : Nat) : Int) := by rw [IntWalk.i64_in _ (by omega)]; omega
      have e1 : n - (j + 1) < n := by omega
      have e2 : m - (j + 1) < m := by omega
      rw [show n - 1 - j = n - (j + 1) by omega] at HC1
      rw [show m - 1 - j = m - (j + 1) by omega] at HC2
      have t6 : decide ((j : Int) + 1 ≤ (n : Int)) = true := by simp; omega
      have t7 : decide ((j : Int) + 1 ≤ (m : Int)) = true := by simp; omega
      have t1 : ((j + 1 : Nat) : Int) ≤ (n : Int) := by omega
      have t2 : ((j + 1 : Nat) : Int) ≤ (m : Int) := by omega
      have t3 : decide (j + 1 ≤ n) = true := by simp; omega
      have t4 : decide (j + 1 ≤ m) = true := by simp; omega
      have t5 : IntKind.i64.wrap (((j + 1 : Nat) : Int) + 1) = ((j + 1 + 1 : Nat) : Int) := by rw [IntWalk.i64_in _ (by omega)]; omega
      by_cases hxy : x = y
      · subst hxy
        have d1 := ChnP.bstr_same x
        have d2 := ChnP.bstr_sn x
        rw [ChnP.clash_eq] at HX
        clear hx hy hjA hjB hxr hyr hlx hly
        have q1 := HC1.out _ sh.data.1; have q2 := HC2.out _ sh.data.2
        have F := sh.facts; (try simp only [Hp.Facts, Hp.CellsAt, BatP.cellsAt_bt, BatP.cellsAt_bt, Nat.reduceAdd, Hp.c1, Hp.c2] at F)
        go_wp2_with (first
            | ((with_reducible first | refine Hp.wpl_box sh ?_ ?_ | refine Hp.wpl_alloc Tryd.z_bt sh ?_ ?_ | refine Hp.wpl_alloc Tryd.z_dg sh ?_ ?_ | refine Hp.atl_store ?_ ?_); exact rfl; (try (apply Hp.wsA _ _ _ sh; exact rfl; (iterate 8 try first | exact Hp.az | apply Hp.aw); rfl; kernel_rfl)); clear sh; (try clear F); go_simp; (first | intro b w1 sh | intro w1 sh); have F := sh.facts; (try simp only [Hp.Facts, Hp.CellsAt, BatP.cellsAt_bt, BatP.cellsAt_bt, Nat.reduceAdd, Hp.c1, Hp.c2] at F))
            | fail)
        
        go_wp2_with (first
            | ((with_reducible first | refine Hp.wpl_box sh ?_ ?_ | refine Hp.wpl_alloc Tryd.z_bt sh ?_ ?_ | refine Hp.wpl_alloc Tryd.z_dg sh ?_ ?_ | refine Hp.atl_store ?_ ?_); exact rfl; (try (apply Hp.wsA _ _ _ sh; exact rfl; (iterate 8 try first | exact Hp.az | apply Hp.aw); rfl; kernel_rfl)); clear sh; (try clear F); go_simp; (first | intro b w1 sh | intro w1 sh); have F := sh.facts; (try simp only [Hp.Facts, Hp.CellsAt, BatP.cellsAt_bt, BatP.cellsAt_bt, Nat.reduceAdd, Hp.c1, Hp.c2] at F))
            | fail)
        go_roundw
        case rel => exact ⟨j + 1, by first | rfl | go_num, by omega, by omega, HX, sh⟩
        case measure => simp [intOf]; omega
      · have d1 := ChnP.bstr_ne hxy
        have d2 := ChnP.bstr_nn hxy
        rw [ChnP.clash_ne hxy] at HX
        have KX := Lib.hid (fun W => (show Calls Tryd.prog 29 #[.string (bstr x)] W (fun e w' => e = .returned (.agg (BatP.bA (DigP.of x))) ∧ Below W.heap.size W w') from drof x (by omega) W))
        have KY := Lib.hid (fun W => (show Calls Tryd.prog 29 #[.string (bstr y)] W (fun e w' => e = .returned (.agg (BatP.bA (DigP.of y))) ∧ Below W.heap.size W w') from drof y (by omega) W))
        have HD := bdeq (DigP.of x) (DigP.of y) (ChnP.of_len x) (ChnP.of_len y)
        generalize DigP.of x = dx at HX KX HD
        generalize DigP.of y = dy at HX KY HD
        generalize (dx == dy) = sm at HX HD
        clear hx hy hjA hjB hxr hyr hlx hly hxy
        have q1 := HC1.out _ sh.data.1; have q2 := HC2.out _ sh.data.2
        have F := sh.facts; (try simp only [Hp.Facts, Hp.CellsAt, BatP.cellsAt_bt, BatP.cellsAt_bt, Nat.reduceAdd, Hp.c1, Hp.c2] at F)
        go_wp2_with (first
            | ((with_reducible first | refine Hp.wpl_box sh ?_ ?_ | refine Hp.wpl_alloc Tryd.z_bt sh ?_ ?_ | refine Hp.wpl_alloc Tryd.z_dg sh ?_ ?_ | refine Hp.atl_store ?_ ?_); exact rfl; (try (apply Hp.wsA _ _ _ sh; exact rfl; (iterate 8 try first | exact Hp.az | apply Hp.aw); rfl; kernel_rfl)); clear sh; (try clear F); go_simp; (first | intro b w1 sh | intro w1 sh); have F := sh.facts; (try simp only [Hp.Facts, Hp.CellsAt, BatP.cellsAt_bt, BatP.cellsAt_bt, Nat.reduceAdd, Hp.c1, Hp.c2] at F))
            | fail)
        
        go_wp2_with (first
            | ((with_reducible first | refine Hp.wpl_box sh ?_ ?_ | refine Hp.wpl_alloc Tryd.z_bt sh ?_ ?_ | refine Hp.wpl_alloc Tryd.z_dg sh ?_ ?_ | refine Hp.atl_store ?_ ?_); exact rfl; (try (apply Hp.wsA _ _ _ sh; exact rfl; (iterate 8 try first | exact Hp.az | apply Hp.aw); rfl; kernel_rfl)); clear sh; (try clear F); go_simp; (first | intro b w1 sh | intro w1 sh); have F := sh.facts; (try simp only [Hp.Facts, Hp.CellsAt, BatP.cellsAt_bt, BatP.cellsAt_bt, Nat.reduceAdd, Hp.c1, Hp.c2] at F))
            | fail)
        refine Hp.region_soft (by kernel_rfl) sh (fun _ q => q) ?_; clear sh; (try clear F)
        (try simp only [])
        (refine Hp.tk (i := 0) (oi := ⟨some 39, Op.move (Operand.tmp 8), _, _, _, none⟩) _ rfl (by kernel_rfl) (fun _ _ _ h => h) (fun _ q => q) (by rfl) (fun W hW => by go_simp; (try with_reducible rfl)) ?_; (try simp only [Act.put, Hp.p1, Hp.p2, Hp.p3]))
        (refine Hp.tk (i := 1) (oi := ⟨some 40, Op.move (Operand.tmp 9), _, _, _, none⟩) _ rfl (by kernel_rfl) (fun _ _ _ h => h) (fun _ q => q) (by rfl) (fun W hW => by go_simp; (try with_reducible rfl)) ?_; (try simp only [Act.put, Hp.p1, Hp.p2, Hp.p3]))
        (refine Hp.tk (i := 2) (oi := ⟨some 41, Op.move (Operand.tmp 8), _, _, _, none⟩) _ rfl (by kernel_rfl) (fun _ _ _ h => h) (fun _ q => q) (by rfl) (fun W hW => by go_simp; (try with_reducible rfl)) ?_; (try simp only [Act.put, Hp.p1, Hp.p2, Hp.p3]))
        (refine Hp.cl (i := 3) (oi := ⟨some 42, Op.call { callee := Callee.value (Operand.func 29), args := #[Operand.tmp 41], argTypes := #[9] }, _, _, _, none⟩) _ _ _ rfl (by kernel_rfl) (fun _ _ _ h => h) (fun _ q => q) (by rfl) (fun W hW => by go_simp) (fun W hW => (KX.out W)) ?_; (try simp only [Act.put, Hp.p1, Hp.p2, Hp.p3]))
        (refine Hp.tk (i := 4) (oi := ⟨some 43, Op.move (Operand.tmp 9), _, _, _, none⟩) _ rfl (by kernel_rfl) (fun _ _ _ h => h) (fun _ q => q) (by rfl) (fun W hW => by go_simp; (try with_reducible rfl)) ?_; (try simp only [Act.put, Hp.p1, Hp.p2, Hp.p3]))
        (refine Hp.cl (i := 5) (oi := ⟨some 44, Op.call { callee := Callee.value (Operand.func 29), args := #[Operand.tmp 43], argTypes := #[9] }, _, _, _, none⟩) _ _ _ rfl (by kernel_rfl) (fun _ _ _ h => h) (fun _ q => q) (by rfl) (fun W hW => by go_simp) (fun W hW => (KY.out W)) ?_; (try simp only [Act.put, Hp.p1, Hp.p2, Hp.p3]))
        (refine Hp.tk (i := 6) (oi := ⟨some 45, Op.binOp BinOp.eql 23 (Operand.tmp 42) (Operand.tmp 44) 23, _, _, _, none⟩) _ rfl (by kernel_rfl) (fun _ _ _ h => h) (fun _ q => q) (by rfl) (fun W hW => by go_simp; (try with_reducible rfl)) ?_; (try simp only [Act.put, Hp.p1, Hp.p2, Hp.p3]))
        (refine Hp.tk (i := 7) (oi := ⟨some 4, Op.assign (Operand.tmp 39), _, _, _, none⟩) _ rfl (by kernel_rfl) (fun _ _ _ h => h) (fun _ q => q) (by rfl) (fun W hW => by go_simp; (try with_reducible rfl)) ?_; (try simp only [Act.put, Hp.p1, Hp.p2, Hp.p3]))
        (refine Hp.tk (i := 8) (oi := ⟨some 5, Op.assign (Operand.tmp 40), _, _, _, none⟩) _ rfl (by kernel_rfl) (fun _ _ _ h => h) (fun _ q => q) (by rfl) (fun W hW => by go_simp; (try with_reducible rfl)) ?_; (try simp only [Act.put, Hp.p1, Hp.p2, Hp.p3]))
        (refine Hp.tk (i := 9) (oi := ⟨some 6, Op.assign (Operand.tmp 45), _, _, _, none⟩) _ rfl (by kernel_rfl) (fun _ _ _ h => h) (fun _ q => q) (by rfl) (fun W hW => by go_simp; (try with_reducible rfl)) ?_; (try simp only [Act.put, Hp.p1, Hp.p2, Hp.p3]))
        refine Hp.soft_done (by kernel_rfl) (fun w1 sh => ?_) _; (try clear F); (try have F := Hp.Sh.facts sh); (try simp only [Hp.Facts, Hp.CellsAt, BatP.cellsAt_bt, BatP.cellsAt_bt, Nat.reduceAdd, Hp.c1, Hp.c2] at F)
        go_wp2_with (first
            | ((with_reducible first | refine Hp.wpl_box sh ?_ ?_ | refine Hp.wpl_alloc Tryd.z_bt sh ?_ ?_ | refine Hp.wpl_alloc Tryd.z_dg sh ?_ ?_ | refine Hp.atl_store ?_ ?_); exact rfl; (try (apply Hp.wsA _ _ _ sh; exact rfl; (iterate 8 try first | exact Hp.az | apply Hp.aw); rfl; kernel_rfl)); clear sh; (try clear F); go_simp; (first | intro b w1 sh | intro w1 sh); have F := sh.facts; (try simp only [Hp.Facts, Hp.CellsAt, BatP.cellsAt_bt, BatP.cellsAt_bt, Nat.reduceAdd, Hp.c1, Hp.c2] at F))
            | fail)
        go_ret3
        exact ⟨by rw [HX.out]; rfl, sh.below⟩
    · have HX9 := Lib.hid (show ChnP.clash A.reverse B.reverse = (([], []), false) by
        rw [HX.out]
        rcases (show n ≤ j ∨ m ≤ j by omega) with h | h
        · rw [ChnP.rev_end (L := A) (by rw [HN.out]; exact h), ChnP.clash_nil1]
        · rw [ChnP.rev_end (L := B) (by rw [HM.out]; exact h), ChnP.clash_nil2])
      clear HX
      by_cases t1 : j + 1 ≤ n
      · have t1I : ((j + 1 : Nat) : Int) ≤ (n : Int) := by omega
        have t2I : ¬ ((j + 1 : Nat) : Int) ≤ (m : Int) := by omega
        have t3 : decide (j + 1 ≤ n) = true := by simp; omega
        have t4 : decide (j + 1 ≤ m) = false := by simp; omega
        have F := sh.facts; (try simp only [Hp.Facts, Hp.CellsAt, BatP.cellsAt_bt, BatP.cellsAt_bt, Nat.reduceAdd, Hp.c1, Hp.c2] at F)
        go_wp2_with (first
            | ((with_reducible first | refine Hp.wpl_box sh ?_ ?_ | refine Hp.wpl_alloc Tryd.z_bt sh ?_ ?_ | refine Hp.wpl_alloc Tryd.z_dg sh ?_ ?_ | refine Hp.atl_store ?_ ?_); exact rfl; (try (apply Hp.wsA _ _ _ sh; exact rfl; (iterate 8 try first | exact Hp.az | apply Hp.aw); rfl; kernel_rfl)); clear sh; (try clear F); go_simp; (first | intro b w1 sh | intro w1 sh); have F := sh.facts; (try simp only [Hp.Facts, Hp.CellsAt, BatP.cellsAt_bt, BatP.cellsAt_bt, Nat.reduceAdd, Hp.c1, Hp.c2] at F))
            | fail)
        go_ret3
        exact ⟨by rw [HX9.out]; rfl, sh.below⟩
      · have t1I : ¬ ((j + 1 : Nat) : Int) ≤ (n : Int) := by omega
        have t3 : decide (j + 1 ≤ n) = false := by simp; omega
        have F := sh.facts; (try simp only [Hp.Facts, Hp.CellsAt, BatP.cellsAt_bt, BatP.cellsAt_bt, Nat.reduceAdd, Hp.c1, Hp.c2] at F)
        go_wp2_with (first
            | ((with_reducible first | refine Hp.wpl_box sh ?_ ?_ | refine Hp.wpl_alloc Tryd.z_bt sh ?_ ?_ | refine Hp.wpl_alloc Tryd.z_dg sh ?_ ?_ | refine Hp.atl_store ?_ ?_); exact rfl; (try (apply Hp.wsA _ _ _ sh; exact rfl; (iterate 8 try first | exact Hp.az | apply Hp.aw); rfl; kernel_rfl)); clear sh; (try clear F); go_simp; (first | intro b w1 sh | intro w1 sh); have F := sh.facts; (try simp only [Hp.Facts, Hp.CellsAt, BatP.cellsAt_bt, BatP.cellsAt_bt, Nat.reduceAdd, Hp.c1, Hp.c2] at F))
            | fail)
        go_ret3
        exact ⟨by rw [HX9.out]; rfl, sh.below⟩
end Go.Proofs.YtfcffglgkblidaaDoor

/-
  The walk of ChainClashes.
-/
namespace Go.Proofs.YtfcffglgkblidaaDoor
open Go.RowKit
set_option linter.unusedVariables false
set_option linter.unusedSimpArgs false
set_option maxHeartbeats 4000000 in
set_option maxRecDepth 100000 in
theorem chainClashes_walk (s1 s2 : Option Addr) (n m c1 c2 : Nat) (A B : List (List UInt8)) (hn : n = A.length) (hm : m = B.length) (w : World) (hR : Hp.RdV w s1 (A.map ChnP.txc)) (hR2 : Hp.RdV w s2 (B.map ChnP.txc)) (hG : Hp.RdV w (some ⟨0, 0, none⟩) (DigP.wds DigP.consts)) :
    Calls Tryd.prog 5 #[.slice s1 n c1, .slice s2 m c2] w fun e w' => e = .returned (.bool true) ∧ Below w.heap.size w w' := by
  have sh := (Hp.Sh.start ((RdV_rob hR).and ((RdV_rob hR2).and (RdV_rob hG))) : Hp.Sh w w [] (fun W => Hp.RdV W s1 (A.map ChnP.txc) ∧ Hp.RdV W s2 (B.map ChnP.txc) ∧ Hp.RdV W (some ⟨0, 0, none⟩) (DigP.wds DigP.consts)))
  have K0 := Lib.hid (fun W q => rfew s1 n c1 A hn W q)
  have K1 := Lib.hid (fun W q => rfew s2 m c2 B hm W q)
  clear hR hR2 hG
  cases hA : ChnP.few A with
  | false =>
    rw [hA] at K0
    clear hn hm hA
    go_enter Tryd.func5, Tryd.ntmps5
    have F := sh.facts; (try simp only [Hp.Facts, Hp.CellsAt, BatP.cellsAt_bt, BatP.cellsAt_bt, Nat.reduceAdd, Hp.c1, Hp.c2] at F)
    go_wp2_with (first
        | ((with_reducible first | refine Hp.wpl_box sh ?_ ?_ | refine Hp.wpl_alloc Tryd.z_ev sh ?_ ?_ | refine Hp.wpl_alloc Tryd.z_bt sh ?_ ?_ | refine Hp.wpl_alloc Tryd.z_dg sh ?_ ?_ | refine Hp.atl_store ?_ ?_); exact rfl; (try (apply Hp.wsA _ _ _ sh; exact rfl; (iterate 8 try first | exact Hp.az | apply Hp.aw); rfl; kernel_rfl)); clear sh; (try clear F); go_simp; (first | intro b w1 sh | intro w1 sh); have F := sh.facts; (try simp only [Hp.Facts, Hp.CellsAt, BatP.cellsAt_bt, BatP.cellsAt_bt, Nat.reduceAdd, Hp.c1, Hp.c2] at F))
        | fail)
    go_fit (K0.out _ sh.data.1)
    rintro e w1 ⟨rfl, hb⟩
    replace sh := sh.call hb; clear hb; (try clear F); have F := sh.facts; (try simp only [Hp.Facts, Hp.CellsAt, BatP.cellsAt_bt, BatP.cellsAt_bt, Nat.reduceAdd, Hp.c1, Hp.c2] at F)
    go_wp2_with (first
        | ((with_reducible first | refine Hp.wpl_box sh ?_ ?_ | refine Hp.wpl_alloc Tryd.z_ev sh ?_ ?_ | refine Hp.wpl_alloc Tryd.z_bt sh ?_ ?_ | refine Hp.wpl_alloc Tryd.z_dg sh ?_ ?_ | refine Hp.atl_store ?_ ?_); exact rfl; (try (apply Hp.wsA _ _ _ sh; exact rfl; (iterate 8 try first | exact Hp.az | apply Hp.aw); rfl; kernel_rfl)); clear sh; (try clear F); go_simp; (first | intro b w1 sh | intro w1 sh); have F := sh.facts; (try simp only [Hp.Facts, Hp.CellsAt, BatP.cellsAt_bt, BatP.cellsAt_bt, Nat.reduceAdd, Hp.c1, Hp.c2] at F))
        | fail)
    go_ret
    exact ⟨rfl, sh.below⟩
  | true =>
    rw [hA] at K0
    cases hB : ChnP.few B with
    | false =>
      rw [hB] at K1
      clear hn hm hA hB
      go_enter Tryd.func5, Tryd.ntmps5
      have F := sh.facts; (try simp only [Hp.Facts, Hp.CellsAt, BatP.cellsAt_bt, BatP.cellsAt_bt, Nat.reduceAdd, Hp.c1, Hp.c2] at F)
      go_wp2_with (first
          | ((with_reducible first | refine Hp.wpl_box sh ?_ ?_ | refine Hp.wpl_alloc Tryd.z_ev sh ?_ ?_ | refine Hp.wpl_alloc Tryd.z_bt sh ?_ ?_ | refine Hp.wpl_alloc Tryd.z_dg sh ?_ ?_ | refine Hp.atl_store ?_ ?_); exact rfl; (try (apply Hp.wsA _ _ _ sh; exact rfl; (iterate 8 try first | exact Hp.az | apply Hp.aw); rfl; kernel_rfl)); clear sh; (try clear F); go_simp; (first | intro b w1 sh | intro w1 sh); have F := sh.facts; (try simp only [Hp.Facts, Hp.CellsAt, BatP.cellsAt_bt, BatP.cellsAt_bt, Nat.reduceAdd, Hp.c1, Hp.c2] at F))
          | fail)
      go_fit (K0.out _ sh.data.1)
      rintro e w1 ⟨rfl, hb⟩
      replace sh := sh.call hb; clear hb; (try clear F); have F := sh.facts; (try simp only [Hp.Facts, Hp.CellsAt, BatP.cellsAt_bt, BatP.cellsAt_bt, Nat.reduceAdd, Hp.c1, Hp.c2] at F)
      go_wp2_with (first
          | ((with_reducible first | refine Hp.wpl_box sh ?_ ?_ | refine Hp.wpl_alloc Tryd.z_ev sh ?_ ?_ | refine Hp.wpl_alloc Tryd.z_bt sh ?_ ?_ | refine Hp.wpl_alloc Tryd.z_dg sh ?_ ?_ | refine Hp.atl_store ?_ ?_); exact rfl; (try (apply Hp.wsA _ _ _ sh; exact rfl; (iterate 8 try first | exact Hp.az | apply Hp.aw); rfl; kernel_rfl)); clear sh; (try clear F); go_simp; (first | intro b w1 sh | intro w1 sh); have F := sh.facts; (try simp only [Hp.Facts, Hp.CellsAt, BatP.cellsAt_bt, BatP.cellsAt_bt, Nat.reduceAdd, Hp.c1, Hp.c2] at F))
          | fail)
      go_fit (K1.out _ sh.data.2.1)
      rintro e w1 ⟨rfl, hb⟩
      replace sh := sh.call hb; clear hb; (try clear F); have F := sh.facts; (try simp only [Hp.Facts, Hp.CellsAt, BatP.cellsAt_bt, BatP.cellsAt_bt, Nat.reduceAdd, Hp.c1, Hp.c2] at F)
      go_wp2_with (first
          | ((with_reducible first | refine Hp.wpl_box sh ?_ ?_ | refine Hp.wpl_alloc Tryd.z_ev sh ?_ ?_ | refine Hp.wpl_alloc Tryd.z_bt sh ?_ ?_ | refine Hp.wpl_alloc Tryd.z_dg sh ?_ ?_ | refine Hp.atl_store ?_ ?_); exact rfl; (try (apply Hp.wsA _ _ _ sh; exact rfl; (iterate 8 try first | exact Hp.az | apply Hp.aw); rfl; kernel_rfl)); clear sh; (try clear F); go_simp; (first | intro b w1 sh | intro w1 sh); have F := sh.facts; (try simp only [Hp.Facts, Hp.CellsAt, BatP.cellsAt_bt, BatP.cellsAt_bt, Nat.reduceAdd, Hp.c1, Hp.c2] at F))
          | fail)
      go_ret
      exact ⟨rfl, sh.below⟩
    | true =>
      rw [hB] at K1
      obtain ⟨a1, a2⟩ := ChnP.few_in hA
      obtain ⟨b1, b2⟩ := ChnP.few_in hB
      have KP := Lib.hid (fun W q q2 g => cclash s1 s2 n m c1 c2 A B hn hm (by omega) (by omega) a2 b2 W q q2 g)
      have KR := Lib.hid (fun W q q2 => crclash s1 s2 n m c1 c2 A B hn hm (by omega) (by omega) a2 b2 W q q2)
      have KL := Lib.hid (fun W g => clinked W g)
      obtain ⟨x, y, b, hX⟩ : ∃ x y b, ChnP.clash A.reverse B.reverse = ((x, y), b) := ⟨_, _, _, rfl⟩
      rw [hX] at KP KR
      unfold ChnP.claV at KP KR
      dsimp only at KP KR
      have d1 := ChnP.bstr_same x
      have d2 := ChnP.bstr_same y
      clear hn hm hA hB a1 a2 b1 b2 hX
      go_enter Tryd.func5, Tryd.ntmps5
      have F := sh.facts; (try simp only [Hp.Facts, Hp.CellsAt, BatP.cellsAt_bt, BatP.cellsAt_bt, Nat.reduceAdd, Hp.c1, Hp.c2] at F)
      go_wp2_with (first
          | ((with_reducible first | refine Hp.wpl_box sh ?_ ?_ | refine Hp.wpl_alloc Tryd.z_ev sh ?_ ?_ | refine Hp.wpl_alloc Tryd.z_bt sh ?_ ?_ | refine Hp.wpl_alloc Tryd.z_dg sh ?_ ?_ | refine Hp.atl_store ?_ ?_); exact rfl; (try (apply Hp.wsA _ _ _ sh; exact rfl; (iterate 8 try first | exact Hp.az | apply Hp.aw); rfl; kernel_rfl)); clear sh; (try clear F); go_simp; (first | intro b w1 sh | intro w1 sh); have F := sh.facts; (try simp only [Hp.Facts, Hp.CellsAt, BatP.cellsAt_bt, BatP.cellsAt_bt, Nat.reduceAdd, Hp.c1, Hp.c2] at F))
          | fail)
      go_fit (K0.out _ sh.data.1)
      rintro e w1 ⟨rfl, hb⟩
      replace sh := sh.call hb; clear hb; (try clear F); have F := sh.facts; (try simp only [Hp.Facts, Hp.CellsAt, BatP.cellsAt_bt, BatP.cellsAt_bt, Nat.reduceAdd, Hp.c1, Hp.c2] at F)
      go_wp2_with (first
          | ((with_reducible first | refine Hp.wpl_box sh ?_ ?_ | refine Hp.wpl_alloc Tryd.z_ev sh ?_ ?_ | refine Hp.wpl_alloc Tryd.z_bt sh ?_ ?_ | refine Hp.wpl_alloc Tryd.z_dg sh ?_ ?_ | refine Hp.atl_store ?_ ?_); exact rfl; (try (apply Hp.wsA _ _ _ sh; exact rfl; (iterate 8 try first | exact Hp.az | apply Hp.aw); rfl; kernel_rfl)); clear sh; (try clear F); go_simp; (first | intro b w1 sh | intro w1 sh); have F := sh.facts; (try simp only [Hp.Facts, Hp.CellsAt, BatP.cellsAt_bt, BatP.cellsAt_bt, Nat.reduceAdd, Hp.c1, Hp.c2] at F))
          | fail)
      go_fit (K1.out _ sh.data.2.1)
      rintro e w1 ⟨rfl, hb⟩
      replace sh := sh.call hb; clear hb; (try clear F); have F := sh.facts; (try simp only [Hp.Facts, Hp.CellsAt, BatP.cellsAt_bt, BatP.cellsAt_bt, Nat.reduceAdd, Hp.c1, Hp.c2] at F)
      go_wp2_with (first
          | ((with_reducible first | refine Hp.wpl_box sh ?_ ?_ | refine Hp.wpl_alloc Tryd.z_ev sh ?_ ?_ | refine Hp.wpl_alloc Tryd.z_bt sh ?_ ?_ | refine Hp.wpl_alloc Tryd.z_dg sh ?_ ?_ | refine Hp.atl_store ?_ ?_); exact rfl; (try (apply Hp.wsA _ _ _ sh; exact rfl; (iterate 8 try first | exact Hp.az | apply Hp.aw); rfl; kernel_rfl)); clear sh; (try clear F); go_simp; (first | intro b w1 sh | intro w1 sh); have F := sh.facts; (try simp only [Hp.Facts, Hp.CellsAt, BatP.cellsAt_bt, BatP.cellsAt_bt, Nat.reduceAdd, Hp.c1, Hp.c2] at F))
          | fail)
      go_fit (KP.out _ sh.data.1 sh.data.2.1 sh.data.2.2)
      rintro e w1 ⟨rfl, hb⟩
      replace sh := sh.call hb; clear hb; (try clear F); have F := sh.facts; (try simp only [Hp.Facts, Hp.CellsAt, BatP.cellsAt_bt, BatP.cellsAt_bt, Nat.reduceAdd, Hp.c1, Hp.c2] at F)
      go_wp2_with (first
          | ((with_reducible first | refine Hp.wpl_box sh ?_ ?_ | refine Hp.wpl_alloc Tryd.z_ev sh ?_ ?_ | refine Hp.wpl_alloc Tryd.z_bt sh ?_ ?_ | refine Hp.wpl_alloc Tryd.z_dg sh ?_ ?_ | refine Hp.atl_store ?_ ?_); exact rfl; (try (apply Hp.wsA _ _ _ sh; exact rfl; (iterate 8 try first | exact Hp.az | apply Hp.aw); rfl; kernel_rfl)); clear sh; (try clear F); go_simp; (first | intro b w1 sh | intro w1 sh); have F := sh.facts; (try simp only [Hp.Facts, Hp.CellsAt, BatP.cellsAt_bt, BatP.cellsAt_bt, Nat.reduceAdd, Hp.c1, Hp.c2] at F))
          | fail)
      go_fit (KR.out _ sh.data.1 sh.data.2.1)
      rintro e w1 ⟨rfl, hb⟩
      replace sh := sh.call hb; clear hb; (try clear F); have F := sh.facts; (try simp only [Hp.Facts, Hp.CellsAt, BatP.cellsAt_bt, BatP.cellsAt_bt, Nat.reduceAdd, Hp.c1, Hp.c2] at F)
      go_wp2_with (first
          | ((with_reducible first | refine Hp.wpl_box sh ?_ ?_ | refine Hp.wpl_alloc Tryd.z_ev sh ?_ ?_ | refine Hp.wpl_alloc Tryd.z_bt sh ?_ ?_ | refine Hp.wpl_alloc Tryd.z_dg sh ?_ ?_ | refine Hp.atl_store ?_ ?_); exact rfl; (try (apply Hp.wsA _ _ _ sh; exact rfl; (iterate 8 try first | exact Hp.az | apply Hp.aw); rfl; kernel_rfl)); clear sh; (try clear F); go_simp; (first | intro b w1 sh | intro w1 sh); have F := sh.facts; (try simp only [Hp.Facts, Hp.CellsAt, BatP.cellsAt_bt, BatP.cellsAt_bt, Nat.reduceAdd, Hp.c1, Hp.c2] at F))
          | fail)
      go_fit (KL.out _ sh.data.2.2)
      rintro e w1 ⟨rfl, hb⟩
      replace sh := sh.call hb; clear hb; (try clear F); have F := sh.facts; (try simp only [Hp.Facts, Hp.CellsAt, BatP.cellsAt_bt, BatP.cellsAt_bt, Nat.reduceAdd, Hp.c1, Hp.c2] at F)
      go_wp2_with (first
          | ((with_reducible first | refine Hp.wpl_box sh ?_ ?_ | refine Hp.wpl_alloc Tryd.z_ev sh ?_ ?_ | refine Hp.wpl_alloc Tryd.z_bt sh ?_ ?_ | refine Hp.wpl_alloc Tryd.z_dg sh ?_ ?_ | refine Hp.atl_store ?_ ?_); exact rfl; (try (apply Hp.wsA _ _ _ sh; exact rfl; (iterate 8 try first | exact Hp.az | apply Hp.aw); rfl; kernel_rfl)); clear sh; (try clear F); go_simp; (first | intro b w1 sh | intro w1 sh); have F := sh.facts; (try simp only [Hp.Facts, Hp.CellsAt, BatP.cellsAt_bt, BatP.cellsAt_bt, Nat.reduceAdd, Hp.c1, Hp.c2] at F))
          | fail)
      go_ret
      exact ⟨by first | rfl | simp, sh.below⟩
end Go.Proofs.YtfcffglgkblidaaDoor
