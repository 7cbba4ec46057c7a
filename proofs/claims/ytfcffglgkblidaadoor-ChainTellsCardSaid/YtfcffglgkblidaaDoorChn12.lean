
/-
  The walk of ChainTells.
-/
import Derived.Test.YtfcffglgkblidaaDoorChn4
import Derived.Test.YtfcffglgkblidaaDoorChnLen
import Derived.Test.YtfcffglgkblidaaDoorBat8
namespace Go.Proofs.YtfcffglgkblidaaDoor
open Go.RowKit
set_option linter.unusedVariables false
set_option linter.unusedSimpArgs false
namespace ChnP
theorem clash_mem : ∀ (A B : List Bs) (x y : Bs) (b : Bool), clash A B = ((x, y), b) → (x ∈ A ∨ x = []) ∧ (y ∈ B ∨ y = [])
  | [], B, x, y, b, h => by rw [clash_nil1] at h; cases h; exact ⟨.inr rfl, .inr rfl⟩
  | _ :: _, [], x, y, b, h => by rw [clash_nil2] at h; cases h; exact ⟨.inr rfl, .inr rfl⟩
  | u :: A, v :: B, x, y, b, h => by
    by_cases e : u = v
    · subst e
      rw [clash_eq] at h
      obtain ⟨h1, h2⟩ := clash_mem A B x y b h
      exact ⟨h1.imp (List.mem_cons_of_mem _) id, h2.imp (List.mem_cons_of_mem _) id⟩
    · rw [clash_ne e] at h
      cases h
      exact ⟨.inl (List.mem_cons_self ..), .inl (List.mem_cons_self ..)⟩
theorem clash_top {A B : List Bs} {x y : Bs} {b : Bool} {k : Nat} (hA : ∀ t ∈ A, t.length ≤ k) (hB : ∀ t ∈ B, t.length ≤ k) (h : clash A.reverse B.reverse = ((x, y), b)) : x.length ≤ k ∧ y.length ≤ k := by
  obtain ⟨h1, h2⟩ := clash_mem _ _ _ _ _ h
  constructor
  · rcases h1 with h1 | rfl
    · exact hA _ (List.mem_reverse.1 h1)
    · exact Nat.zero_le _
  · rcases h2 with h2 | rfl
    · exact hB _ (List.mem_reverse.1 h2)
    · exact Nat.zero_le _
end ChnP
set_option maxHeartbeats 4000000 in
set_option maxRecDepth 100000 in
theorem chainTells_walk (a : List UInt8) (ha : a.length = 32) (f : Int) (hf : 0 ≤ f ∧ f ≤ 18446744073709551615) (s1 s2 : Option Addr) (n m c1 c2 : Nat) (A B : List (List UInt8)) (hn : n = A.length) (hm : m = B.length) (w : World) (hR : Hp.RdV w s1 (A.map ChnP.txc)) (hR2 : Hp.RdV w s2 (B.map ChnP.txc)) (hG : Hp.RdV w (some ⟨0, 0, none⟩) (DigP.wds DigP.consts)) :
    Calls Tryd.prog 7 #[.agg (BatP.bA a), .int .u64 f, .slice s1 n c1, .slice s2 m c2] w fun e w' => e = .returned (.bool true) ∧ Below w.heap.size w w' := by
  have sh := (Hp.Sh.start ((RdV_rob hR).and ((RdV_rob hR2).and (RdV_rob hG))) : Hp.Sh w w [] (fun W => Hp.RdV W s1 (A.map ChnP.txc) ∧ Hp.RdV W s2 (B.map ChnP.txc) ∧ Hp.RdV W (some ⟨0, 0, none⟩) (DigP.wds DigP.consts)))
  have K0 := Lib.hid (fun W q => rfew s1 n c1 A hn W q)
  have K1 := Lib.hid (fun W q => rfew s2 m c2 B hm W q)
  have KL := Lib.hid (fun W g => clinked W g)
  clear hR hR2 hG
  cases hA : ChnP.few A with
  | false =>
    rw [hA] at K0
    clear hn hm hA ha hf
    go_enter Tryd.func7, Tryd.ntmps7
    have F := sh.facts; (try simp only [Hp.Facts, Hp.CellsAt, BatP.cellsAt_bt, Nat.reduceAdd, Hp.c1, Hp.c2] at F)
    have tok_b4 : True := trivial
    go_wp2_with (first
        | ((with_reducible first | refine Hp.wpl_box sh ?_ ?_ | refine Hp.wpl_alloc Tryd.z_ev sh ?_ ?_ | refine Hp.wpl_alloc Tryd.z_bt sh ?_ ?_ | refine Hp.wpl_alloc Tryd.z_dg sh ?_ ?_ | refine Hp.atl_store ?_ ?_); exact rfl; (try (apply Hp.wsA _ _ _ sh; exact rfl; (iterate 8 try first | exact Hp.az | apply Hp.aw); rfl; kernel_rfl)); clear sh; (try clear F); go_simp; (first | (have tok := tok_b4; clear tok tok_b4; intro b4 w1 sh) | intro b w1 sh | intro w1 sh); have F := sh.facts; (try simp only [Hp.Facts, Hp.CellsAt, BatP.cellsAt_bt, Nat.reduceAdd, Hp.c1, Hp.c2] at F))
        | fail)
    go_fit (K0.out _ sh.data.1)
    rintro e w1 ⟨rfl, hb⟩
    replace sh := sh.call hb; clear hb; (try clear F); have F := sh.facts; (try simp only [Hp.Facts, Hp.CellsAt, BatP.cellsAt_bt, Nat.reduceAdd, Hp.c1, Hp.c2] at F)
    go_wp2_with (first
        | ((with_reducible first | refine Hp.wpl_box sh ?_ ?_ | refine Hp.wpl_alloc Tryd.z_ev sh ?_ ?_ | refine Hp.wpl_alloc Tryd.z_bt sh ?_ ?_ | refine Hp.wpl_alloc Tryd.z_dg sh ?_ ?_ | refine Hp.atl_store ?_ ?_); exact rfl; (try (apply Hp.wsA _ _ _ sh; exact rfl; (iterate 8 try first | exact Hp.az | apply Hp.aw); rfl; kernel_rfl)); clear sh; (try clear F); go_simp; (first | intro b w1 sh | intro w1 sh); have F := sh.facts; (try simp only [Hp.Facts, Hp.CellsAt, BatP.cellsAt_bt, Nat.reduceAdd, Hp.c1, Hp.c2] at F))
        | fail)
    go_fit (KL.out _ sh.data.2.2)
    rintro e w1 ⟨rfl, hb⟩
    replace sh := sh.call hb; clear hb; (try clear F); have F := sh.facts; (try simp only [Hp.Facts, Hp.CellsAt, BatP.cellsAt_bt, Nat.reduceAdd, Hp.c1, Hp.c2] at F)
    go_wp2_with (first
        | ((with_reducible first | refine Hp.wpl_box sh ?_ ?_ | refine Hp.wpl_alloc Tryd.z_ev sh ?_ ?_ | refine Hp.wpl_alloc Tryd.z_bt sh ?_ ?_ | refine Hp.wpl_alloc Tryd.z_dg sh ?_ ?_ | refine Hp.atl_store ?_ ?_); exact rfl; (try (apply Hp.wsA _ _ _ sh; exact rfl; (iterate 8 try first | exact Hp.az | apply Hp.aw); rfl; kernel_rfl)); clear sh; (try clear F); go_simp; (first | intro b w1 sh | intro w1 sh); have F := sh.facts; (try simp only [Hp.Facts, Hp.CellsAt, BatP.cellsAt_bt, Nat.reduceAdd, Hp.c1, Hp.c2] at F))
        | fail)
    go_ret
    exact ⟨by first | rfl | simp, sh.below⟩
  | true =>
    rw [hA] at K0
    cases hB : ChnP.few B with
    | false =>
      rw [hB] at K1
      clear hn hm hA hB ha hf
      go_enter Tryd.func7, Tryd.ntmps7
      have F := sh.facts; (try simp only [Hp.Facts, Hp.CellsAt, BatP.cellsAt_bt, Nat.reduceAdd, Hp.c1, Hp.c2] at F)
      have tok_b4 : True := trivial
      go_wp2_with (first
          | ((with_reducible first | refine Hp.wpl_box sh ?_ ?_ | refine Hp.wpl_alloc Tryd.z_ev sh ?_ ?_ | refine Hp.wpl_alloc Tryd.z_bt sh ?_ ?_ | refine Hp.wpl_alloc Tryd.z_dg sh ?_ ?_ | refine Hp.atl_store ?_ ?_); exact rfl; (try (apply Hp.wsA _ _ _ sh; exact rfl; (iterate 8 try first | exact Hp.az | apply Hp.aw); rfl; kernel_rfl)); clear sh; (try clear F); go_simp; (first | (have tok := tok_b4; clear tok tok_b4; intro b4 w1 sh) | intro b w1 sh | intro w1 sh); have F := sh.facts; (try simp only [Hp.Facts, Hp.CellsAt, BatP.cellsAt_bt, Nat.reduceAdd, Hp.c1, Hp.c2] at F))
          | fail)
      go_fit (K0.out _ sh.data.1)
      rintro e w1 ⟨rfl, hb⟩
      replace sh := sh.call hb; clear hb; (try clear F); have F := sh.facts; (try simp only [Hp.Facts, Hp.CellsAt, BatP.cellsAt_bt, Nat.reduceAdd, Hp.c1, Hp.c2] at F)
      go_wp2_with (first
          | ((with_reducible first | refine Hp.wpl_box sh ?_ ?_ | refine Hp.wpl_alloc Tryd.z_ev sh ?_ ?_ | refine Hp.wpl_alloc Tryd.z_bt sh ?_ ?_ | refine Hp.wpl_alloc Tryd.z_dg sh ?_ ?_ | refine Hp.atl_store ?_ ?_); exact rfl; (try (apply Hp.wsA _ _ _ sh; exact rfl; (iterate 8 try first | exact Hp.az | apply Hp.aw); rfl; kernel_rfl)); clear sh; (try clear F); go_simp; (first | intro b w1 sh | intro w1 sh); have F := sh.facts; (try simp only [Hp.Facts, Hp.CellsAt, BatP.cellsAt_bt, Nat.reduceAdd, Hp.c1, Hp.c2] at F))
          | fail)
      go_fit (K1.out _ sh.data.2.1)
      rintro e w1 ⟨rfl, hb⟩
      replace sh := sh.call hb; clear hb; (try clear F); have F := sh.facts; (try simp only [Hp.Facts, Hp.CellsAt, BatP.cellsAt_bt, Nat.reduceAdd, Hp.c1, Hp.c2] at F)
      go_wp2_with (first
          | ((with_reducible first | refine Hp.wpl_box sh ?_ ?_ | refine Hp.wpl_alloc Tryd.z_ev sh ?_ ?_ | refine Hp.wpl_alloc Tryd.z_bt sh ?_ ?_ | refine Hp.wpl_alloc Tryd.z_dg sh ?_ ?_ | refine Hp.atl_store ?_ ?_); exact rfl; (try (apply Hp.wsA _ _ _ sh; exact rfl; (iterate 8 try first | exact Hp.az | apply Hp.aw); rfl; kernel_rfl)); clear sh; (try clear F); go_simp; (first | intro b w1 sh | intro w1 sh); have F := sh.facts; (try simp only [Hp.Facts, Hp.CellsAt, BatP.cellsAt_bt, Nat.reduceAdd, Hp.c1, Hp.c2] at F))
          | fail)
      go_fit (KL.out _ sh.data.2.2)
      rintro e w1 ⟨rfl, hb⟩
      replace sh := sh.call hb; clear hb; (try clear F); have F := sh.facts; (try simp only [Hp.Facts, Hp.CellsAt, BatP.cellsAt_bt, Nat.reduceAdd, Hp.c1, Hp.c2] at F)
      go_wp2_with (first
          | ((with_reducible first | refine Hp.wpl_box sh ?_ ?_ | refine Hp.wpl_alloc Tryd.z_ev sh ?_ ?_ | refine Hp.wpl_alloc Tryd.z_bt sh ?_ ?_ | refine Hp.wpl_alloc Tryd.z_dg sh ?_ ?_ | refine Hp.atl_store ?_ ?_); exact rfl; (try (apply Hp.wsA _ _ _ sh; exact rfl; (iterate 8 try first | exact Hp.az | apply Hp.aw); rfl; kernel_rfl)); clear sh; (try clear F); go_simp; (first | intro b w1 sh | intro w1 sh); have F := sh.facts; (try simp only [Hp.Facts, Hp.CellsAt, BatP.cellsAt_bt, Nat.reduceAdd, Hp.c1, Hp.c2] at F))
          | fail)
      go_ret
      exact ⟨by first | rfl | simp, sh.below⟩
    | true =>
      rw [hB] at K1
      by_cases h63 : 9223372036854775808 < f
      · clear hn hm hA hB ha
        go_enter Tryd.func7, Tryd.ntmps7
        have F := sh.facts; (try simp only [Hp.Facts, Hp.CellsAt, BatP.cellsAt_bt, Nat.reduceAdd, Hp.c1, Hp.c2] at F)
        have tok_b4 : True := trivial
        go_wp2_with (first
            | ((with_reducible first | refine Hp.wpl_box sh ?_ ?_ | refine Hp.wpl_alloc Tryd.z_ev sh ?_ ?_ | refine Hp.wpl_alloc Tryd.z_bt sh ?_ ?_ | refine Hp.wpl_alloc Tryd.z_dg sh ?_ ?_ | refine Hp.atl_store ?_ ?_); exact rfl; (try (apply Hp.wsA _ _ _ sh; exact rfl; (iterate 8 try first | exact Hp.az | apply Hp.aw); rfl; kernel_rfl)); clear sh; (try clear F); go_simp; (first | (have tok := tok_b4; clear tok tok_b4; intro b4 w1 sh) | intro b w1 sh | intro w1 sh); have F := sh.facts; (try simp only [Hp.Facts, Hp.CellsAt, BatP.cellsAt_bt, Nat.reduceAdd, Hp.c1, Hp.c2] at F))
            | fail)
        go_fit (K0.out _ sh.data.1)
        rintro e w1 ⟨rfl, hb⟩
        replace sh := sh.call hb; clear hb; (try clear F); have F := sh.facts; (try simp only [Hp.Facts, Hp.CellsAt, BatP.cellsAt_bt, Nat.reduceAdd, Hp.c1, Hp.c2] at F)
        go_wp2_with (first
            | ((with_reducible first | refine Hp.wpl_box sh ?_ ?_ | refine Hp.wpl_alloc Tryd.z_ev sh ?_ ?_ | refine Hp.wpl_alloc Tryd.z_bt sh ?_ ?_ | refine Hp.wpl_alloc Tryd.z_dg sh ?_ ?_ | refine Hp.atl_store ?_ ?_); exact rfl; (try (apply Hp.wsA _ _ _ sh; exact rfl; (iterate 8 try first | exact Hp.az | apply Hp.aw); rfl; kernel_rfl)); clear sh; (try clear F); go_simp; (first | intro b w1 sh | intro w1 sh); have F := sh.facts; (try simp only [Hp.Facts, Hp.CellsAt, BatP.cellsAt_bt, Nat.reduceAdd, Hp.c1, Hp.c2] at F))
            | fail)
        go_fit (K1.out _ sh.data.2.1)
        rintro e w1 ⟨rfl, hb⟩
        replace sh := sh.call hb; clear hb; (try clear F); have F := sh.facts; (try simp only [Hp.Facts, Hp.CellsAt, BatP.cellsAt_bt, Nat.reduceAdd, Hp.c1, Hp.c2] at F)
        go_wp2_with (first
            | ((with_reducible first | refine Hp.wpl_box sh ?_ ?_ | refine Hp.wpl_alloc Tryd.z_ev sh ?_ ?_ | refine Hp.wpl_alloc Tryd.z_bt sh ?_ ?_ | refine Hp.wpl_alloc Tryd.z_dg sh ?_ ?_ | refine Hp.atl_store ?_ ?_); exact rfl; (try (apply Hp.wsA _ _ _ sh; exact rfl; (iterate 8 try first | exact Hp.az | apply Hp.aw); rfl; kernel_rfl)); clear sh; (try clear F); go_simp; (first | intro b w1 sh | intro w1 sh); have F := sh.facts; (try simp only [Hp.Facts, Hp.CellsAt, BatP.cellsAt_bt, Nat.reduceAdd, Hp.c1, Hp.c2] at F))
            | fail)
        go_fit (KL.out _ sh.data.2.2)
        rintro e w1 ⟨rfl, hb⟩
        replace sh := sh.call hb; clear hb; (try clear F); have F := sh.facts; (try simp only [Hp.Facts, Hp.CellsAt, BatP.cellsAt_bt, Nat.reduceAdd, Hp.c1, Hp.c2] at F)
        go_wp2_with (first
            | ((with_reducible first | refine Hp.wpl_box sh ?_ ?_ | refine Hp.wpl_alloc Tryd.z_ev sh ?_ ?_ | refine Hp.wpl_alloc Tryd.z_bt sh ?_ ?_ | refine Hp.wpl_alloc Tryd.z_dg sh ?_ ?_ | refine Hp.atl_store ?_ ?_); exact rfl; (try (apply Hp.wsA _ _ _ sh; exact rfl; (iterate 8 try first | exact Hp.az | apply Hp.aw); rfl; kernel_rfl)); clear sh; (try clear F); go_simp; (first | intro b w1 sh | intro w1 sh); have F := sh.facts; (try simp only [Hp.Facts, Hp.CellsAt, BatP.cellsAt_bt, Nat.reduceAdd, Hp.c1, Hp.c2] at F))
            | fail)
        go_ret
        exact ⟨by first | rfl | simp, sh.below⟩
      by_cases n0 : n = 0
      · have n1 : ((n : Int) == 0) = true := by simpa using n0
        have n2 : (n == 0) = true := by simpa using n0
        clear hn hm hA hB ha n0
        go_enter Tryd.func7, Tryd.ntmps7
        have F := sh.facts; (try simp only [Hp.Facts, Hp.CellsAt, BatP.cellsAt_bt, Nat.reduceAdd, Hp.c1, Hp.c2] at F)
        have tok_b4 : True := trivial
        go_wp2_with (first
            | ((with_reducible first | refine Hp.wpl_box sh ?_ ?_ | refine Hp.wpl_alloc Tryd.z_ev sh ?_ ?_ | refine Hp.wpl_alloc Tryd.z_bt sh ?_ ?_ | refine Hp.wpl_alloc Tryd.z_dg sh ?_ ?_ | refine Hp.atl_store ?_ ?_); exact rfl; (try (apply Hp.wsA _ _ _ sh; exact rfl; (iterate 8 try first | exact Hp.az | apply Hp.aw); rfl; kernel_rfl)); clear sh; (try clear F); go_simp; (first | (have tok := tok_b4; clear tok tok_b4; intro b4 w1 sh) | intro b w1 sh | intro w1 sh); have F := sh.facts; (try simp only [Hp.Facts, Hp.CellsAt, BatP.cellsAt_bt, Nat.reduceAdd, Hp.c1, Hp.c2] at F))
            | fail)
        go_fit (K0.out _ sh.data.1)
        rintro e w1 ⟨rfl, hb⟩
        replace sh := sh.call hb; clear hb; (try clear F); have F := sh.facts; (try simp only [Hp.Facts, Hp.CellsAt, BatP.cellsAt_bt, Nat.reduceAdd, Hp.c1, Hp.c2] at F)
        go_wp2_with (first
            | ((with_reducible first | refine Hp.wpl_box sh ?_ ?_ | refine Hp.wpl_alloc Tryd.z_ev sh ?_ ?_ | refine Hp.wpl_alloc Tryd.z_bt sh ?_ ?_ | refine Hp.wpl_alloc Tryd.z_dg sh ?_ ?_ | refine Hp.atl_store ?_ ?_); exact rfl; (try (apply Hp.wsA _ _ _ sh; exact rfl; (iterate 8 try first | exact Hp.az | apply Hp.aw); rfl; kernel_rfl)); clear sh; (try clear F); go_simp; (first | intro b w1 sh | intro w1 sh); have F := sh.facts; (try simp only [Hp.Facts, Hp.CellsAt, BatP.cellsAt_bt, Nat.reduceAdd, Hp.c1, Hp.c2] at F))
            | fail)
        go_fit (K1.out _ sh.data.2.1)
        rintro e w1 ⟨rfl, hb⟩
        replace sh := sh.call hb; clear hb; (try clear F); have F := sh.facts; (try simp only [Hp.Facts, Hp.CellsAt, BatP.cellsAt_bt, Nat.reduceAdd, Hp.c1, Hp.c2] at F)
        go_wp2_with (first
            | ((with_reducible first | refine Hp.wpl_box sh ?_ ?_ | refine Hp.wpl_alloc Tryd.z_ev sh ?_ ?_ | refine Hp.wpl_alloc Tryd.z_bt sh ?_ ?_ | refine Hp.wpl_alloc Tryd.z_dg sh ?_ ?_ | refine Hp.atl_store ?_ ?_); exact rfl; (try (apply Hp.wsA _ _ _ sh; exact rfl; (iterate 8 try first | exact Hp.az | apply Hp.aw); rfl; kernel_rfl)); clear sh; (try clear F); go_simp; (first | intro b w1 sh | intro w1 sh); have F := sh.facts; (try simp only [Hp.Facts, Hp.CellsAt, BatP.cellsAt_bt, Nat.reduceAdd, Hp.c1, Hp.c2] at F))
            | fail)
        go_fit (KL.out _ sh.data.2.2)
        rintro e w1 ⟨rfl, hb⟩
        replace sh := sh.call hb; clear hb; (try clear F); have F := sh.facts; (try simp only [Hp.Facts, Hp.CellsAt, BatP.cellsAt_bt, Nat.reduceAdd, Hp.c1, Hp.c2] at F)
        go_wp2_with (first
            | ((with_reducible first | refine Hp.wpl_box sh ?_ ?_ | refine Hp.wpl_alloc Tryd.z_ev sh ?_ ?_ | refine Hp.wpl_alloc Tryd.z_bt sh ?_ ?_ | refine Hp.wpl_alloc Tryd.z_dg sh ?_ ?_ | refine Hp.atl_store ?_ ?_); exact rfl; (try (apply Hp.wsA _ _ _ sh; exact rfl; (iterate 8 try first | exact Hp.az | apply Hp.aw); rfl; kernel_rfl)); clear sh; (try clear F); go_simp; (first | intro b w1 sh | intro w1 sh); have F := sh.facts; (try simp only [Hp.Facts, Hp.CellsAt, BatP.cellsAt_bt, Nat.reduceAdd, Hp.c1, Hp.c2] at F))
            | fail)
        go_ret
        exact ⟨by first | rfl | simp, sh.below⟩
      have n1 : ((n : Int) == 0) = false := by simpa using n0
      have n2 : (n == 0) = false := by simpa using n0
      by_cases m0 : m = 0
      · have m1 : ((m : Int) == 0) = true := by simpa using m0
        have m2 : (m == 0) = true := by simpa using m0
        clear hn hm hA hB ha m0 n0
        go_enter Tryd.func7, Tryd.ntmps7
        have F := sh.facts; (try simp only [Hp.Facts, Hp.CellsAt, BatP.cellsAt_bt, Nat.reduceAdd, Hp.c1, Hp.c2] at F)
        have tok_b4 : True := trivial
        go_wp2_with (first
            | ((with_reducible first | refine Hp.wpl_box sh ?_ ?_ | refine Hp.wpl_alloc Tryd.z_ev sh ?_ ?_ | refine Hp.wpl_alloc Tryd.z_bt sh ?_ ?_ | refine Hp.wpl_alloc Tryd.z_dg sh ?_ ?_ | refine Hp.atl_store ?_ ?_); exact rfl; (try (apply Hp.wsA _ _ _ sh; exact rfl; (iterate 8 try first | exact Hp.az | apply Hp.aw); rfl; kernel_rfl)); clear sh; (try clear F); go_simp; (first | (have tok := tok_b4; clear tok tok_b4; intro b4 w1 sh) | intro b w1 sh | intro w1 sh); have F := sh.facts; (try simp only [Hp.Facts, Hp.CellsAt, BatP.cellsAt_bt, Nat.reduceAdd, Hp.c1, Hp.c2] at F))
            | fail)
        go_fit (K0.out _ sh.data.1)
        rintro e w1 ⟨rfl, hb⟩
        replace sh := sh.call hb; clear hb; (try clear F); have F := sh.facts; (try simp only [Hp.Facts, Hp.CellsAt, BatP.cellsAt_bt, Nat.reduceAdd, Hp.c1, Hp.c2] at F)
        go_wp2_with (first
            | ((with_reducible first | refine Hp.wpl_box sh ?_ ?_ | refine Hp.wpl_alloc Tryd.z_ev sh ?_ ?_ | refine Hp.wpl_alloc Tryd.z_bt sh ?_ ?_ | refine Hp.wpl_alloc Tryd.z_dg sh ?_ ?_ | refine Hp.atl_store ?_ ?_); exact rfl; (try (apply Hp.wsA _ _ _ sh; exact rfl; (iterate 8 try first | exact Hp.az | apply Hp.aw); rfl; kernel_rfl)); clear sh; (try clear F); go_simp; (first | intro b w1 sh | intro w1 sh); have F := sh.facts; (try simp only [Hp.Facts, Hp.CellsAt, BatP.cellsAt_bt, Nat.reduceAdd, Hp.c1, Hp.c2] at F))
            | fail)
        go_fit (K1.out _ sh.data.2.1)
        rintro e w1 ⟨rfl, hb⟩
        replace sh := sh.call hb; clear hb; (try clear F); have F := sh.facts; (try simp only [Hp.Facts, Hp.CellsAt, BatP.cellsAt_bt, Nat.reduceAdd, Hp.c1, Hp.c2] at F)
        go_wp2_with (first
            | ((with_reducible first | refine Hp.wpl_box sh ?_ ?_ | refine Hp.wpl_alloc Tryd.z_ev sh ?_ ?_ | refine Hp.wpl_alloc Tryd.z_bt sh ?_ ?_ | refine Hp.wpl_alloc Tryd.z_dg sh ?_ ?_ | refine Hp.atl_store ?_ ?_); exact rfl; (try (apply Hp.wsA _ _ _ sh; exact rfl; (iterate 8 try first | exact Hp.az | apply Hp.aw); rfl; kernel_rfl)); clear sh; (try clear F); go_simp; (first | intro b w1 sh | intro w1 sh); have F := sh.facts; (try simp only [Hp.Facts, Hp.CellsAt, BatP.cellsAt_bt, Nat.reduceAdd, Hp.c1, Hp.c2] at F))
            | fail)
        go_fit (KL.out _ sh.data.2.2)
        rintro e w1 ⟨rfl, hb⟩
        replace sh := sh.call hb; clear hb; (try clear F); have F := sh.facts; (try simp only [Hp.Facts, Hp.CellsAt, BatP.cellsAt_bt, Nat.reduceAdd, Hp.c1, Hp.c2] at F)
        go_wp2_with (first
            | ((with_reducible first | refine Hp.wpl_box sh ?_ ?_ | refine Hp.wpl_alloc Tryd.z_ev sh ?_ ?_ | refine Hp.wpl_alloc Tryd.z_bt sh ?_ ?_ | refine Hp.wpl_alloc Tryd.z_dg sh ?_ ?_ | refine Hp.atl_store ?_ ?_); exact rfl; (try (apply Hp.wsA _ _ _ sh; exact rfl; (iterate 8 try first | exact Hp.az | apply Hp.aw); rfl; kernel_rfl)); clear sh; (try clear F); go_simp; (first | intro b w1 sh | intro w1 sh); have F := sh.facts; (try simp only [Hp.Facts, Hp.CellsAt, BatP.cellsAt_bt, Nat.reduceAdd, Hp.c1, Hp.c2] at F))
            | fail)
        go_ret
        exact ⟨by first | rfl | simp, sh.below⟩
      have m1 : ((m : Int) == 0) = false := by simpa using m0
      have m2 : (m == 0) = false := by simpa using m0
      obtain ⟨a1, a2⟩ := ChnP.few_in hA
      obtain ⟨b1, b2⟩ := ChnP.few_in hB
      have KP := Lib.hid (fun W q g => ccheck a ha f hf s1 n c1 A hn (by omega) a2 W q g)
      have KR := Lib.hid (fun W q g => ccheck a ha f hf s2 m c2 B hm (by omega) b2 W q g)
      have KC := Lib.hid (fun W q q2 g => cclash s1 s2 n m c1 c2 A B hn hm (by omega) (by omega) a2 b2 W q q2 g)
      have KS := Lib.hid (fun W q q2 => rsame s1 s2 n m c1 c2 A B hn hm (by omega) (by omega) W q q2)
      have h32 := ChnP.chk_len A a f [] ha
      have k32 := ChnP.chk_len B a f [] ha
      have htop := ChnP.chk_top A a f []
      rcases hX : ChnP.chk a f A [] with ⟨⟨T, d⟩, er⟩
      rcases hY : ChnP.chk a f B [] with ⟨⟨U, e⟩, es⟩
      rw [hX] at KP h32 htop
      rw [hY] at KR k32
      unfold ChnP.ChkP at KP KR
      dsimp only [List.length_nil] at KP KR h32 htop k32
      obtain ⟨t, ht⟩ : ∃ m, m = T.length := ⟨_, rfl⟩
      obtain ⟨u, hu⟩ : ∃ m, m = U.length := ⟨_, rfl⟩
      rw [← ht] at KP
      rw [← hu] at KR
      have HAL := Lib.hid ha
      have HDL := Lib.hid h32
      have HEL := Lib.hid k32
      have HDG := Lib.hid (show d.length = BatP.zeros.length from h32)
      have HEG := Lib.hid (show e.length = BatP.zeros.length from k32)
      have HD := bdeq d e h32 k32
      by_cases he : er = 0
      · by_cases he2 : es = 0
        · by_cases hde : d = e
          · subst he he2 hde
            rw [show (d == d) = true by simp] at HD
            obtain ⟨T', d', x1, x2⟩ := ChnP.chk_lk A a f [] (by rw [hX])
            obtain ⟨U', e', y1, y2⟩ := ChnP.chk_lk B a f [] (by rw [hY])
            rw [hX, List.nil_append] at x1
            rw [hY, List.nil_append] at y1
            obtain ⟨rfl, rfl⟩ : T = T' ∧ d = d' := by cases x1; exact ⟨rfl, rfl⟩
            obtain ⟨rfl, rfl⟩ : U = U' ∧ d = e' := by cases y1; exact ⟨rfl, rfl⟩
            have hne : A ≠ [] := fun h => n0 (by rw [hn, h]; rfl)
            have hne2 : B ≠ [] := fun h => m0 (by rw [hm, h]; rfl)
            rcases ChnP.tells' (by omega) x2 y2 hne hne2 (by omega) (by omega) with ⟨hAB, hC⟩ | ⟨hAB, x, y, hC, hxy, hof⟩
            · rw [hC] at KC
              rw [show decide (A = B) = true by simpa using hAB] at KS
              unfold ChnP.claV at KC
              dsimp only at KC
              subst hAB
              rw [hX] at hY
              obtain rfl : T = U := by cases hY; rfl
              obtain rfl : t = u := ht.trans hu.symm
              have KE := Lib.hid (fun s1 s2 c1 c2 W q q2 => bsame04 s1 s2 T t c1 c2 ht (by omega) W q q2)
              clear hn hm hA hB ha a1 a2 b1 b2 hX hY h32 k32 htop ht hu x1 x2 y1 y2 hne hne2 hC
              go_enter Tryd.func7, Tryd.ntmps7
              have F := sh.facts; (try simp only [Hp.Facts, Hp.CellsAt, BatP.cellsAt_bt, Nat.reduceAdd, Hp.c1, Hp.c2] at F)
              have tok_b4 : True := trivial
              go_wp2_with (first
                  | ((with_reducible first | refine Hp.wpl_box sh ?_ ?_ | refine Hp.wpl_alloc Tryd.z_ev sh ?_ ?_ | refine Hp.wpl_alloc Tryd.z_bt sh ?_ ?_ | refine Hp.wpl_alloc Tryd.z_dg sh ?_ ?_ | refine Hp.atl_store ?_ ?_); exact rfl; (try (apply Hp.wsA _ _ _ sh; exact rfl; (iterate 8 try first | exact Hp.az | apply Hp.aw); rfl; kernel_rfl)); clear sh; (try clear F); go_simp; (first | (have tok := tok_b4; clear tok tok_b4; intro b4 w1 sh) | intro b w1 sh | intro w1 sh); have F := sh.facts; (try simp only [Hp.Facts, Hp.CellsAt, BatP.cellsAt_bt, Nat.reduceAdd, Hp.c1, Hp.c2] at F))
                  | fail)
              go_fit (K0.out _ sh.data.1)
              rintro e w1 ⟨rfl, hb⟩
              replace sh := sh.call hb; clear hb; (try clear F); have F := sh.facts; (try simp only [Hp.Facts, Hp.CellsAt, BatP.cellsAt_bt, Nat.reduceAdd, Hp.c1, Hp.c2] at F)
              go_wp2_with (first
                  | ((with_reducible first | refine Hp.wpl_box sh ?_ ?_ | refine Hp.wpl_alloc Tryd.z_ev sh ?_ ?_ | refine Hp.wpl_alloc Tryd.z_bt sh ?_ ?_ | refine Hp.wpl_alloc Tryd.z_dg sh ?_ ?_ | refine Hp.atl_store ?_ ?_); exact rfl; (try (apply Hp.wsA _ _ _ sh; exact rfl; (iterate 8 try first | exact Hp.az | apply Hp.aw); rfl; kernel_rfl)); clear sh; (try clear F); go_simp; (first | intro b w1 sh | intro w1 sh); have F := sh.facts; (try simp only [Hp.Facts, Hp.CellsAt, BatP.cellsAt_bt, Nat.reduceAdd, Hp.c1, Hp.c2] at F))
                  | fail)
              go_fit (K1.out _ sh.data.2.1)
              rintro e w1 ⟨rfl, hb⟩
              replace sh := sh.call hb; clear hb; (try clear F); have F := sh.facts; (try simp only [Hp.Facts, Hp.CellsAt, BatP.cellsAt_bt, Nat.reduceAdd, Hp.c1, Hp.c2] at F)
              go_wp2_with (first
                  | ((with_reducible refine Hp.at_ld 23 ?_); (first | refine Hp.bld_g 0 sh rfl rfl rfl (by kernel_rfl) (BatP.dg_size HAL.out) ?_ | refine Hp.bld_g 0 sh rfl rfl rfl (by kernel_rfl) (BatP.dg_size HDL.out) ?_ | refine Hp.bld_g 0 sh rfl rfl rfl (by kernel_rfl) (BatP.dg_size HEL.out) ?_ | refine Hp.bld_g 1 sh rfl rfl rfl (by kernel_rfl) (BatP.dg_size HAL.out) ?_ | refine Hp.bld_g 1 sh rfl rfl rfl (by kernel_rfl) (BatP.dg_size HDL.out) ?_ | refine Hp.bld_g 1 sh rfl rfl rfl (by kernel_rfl) (BatP.dg_size HEL.out) ?_ | refine Hp.bld_g 2 sh rfl rfl rfl (by kernel_rfl) (BatP.dg_size HAL.out) ?_ | refine Hp.bld_g 2 sh rfl rfl rfl (by kernel_rfl) (BatP.dg_size HDL.out) ?_ | refine Hp.bld_g 2 sh rfl rfl rfl (by kernel_rfl) (BatP.dg_size HEL.out) ?_); go_simp)
                  | ((with_reducible first | refine Hp.wpl_box sh ?_ ?_ | refine Hp.wpl_alloc Tryd.z_ev sh ?_ ?_ | refine Hp.wpl_alloc Tryd.z_bt sh ?_ ?_ | refine Hp.wpl_alloc Tryd.z_dg sh ?_ ?_ | refine Hp.atl_store ?_ ?_); exact rfl; (try (apply Hp.wsA _ _ _ sh; exact rfl; (iterate 8 try first | exact Hp.az | apply Hp.aw); rfl; kernel_rfl)); clear sh; (try clear F); go_simp; (first | intro b w1 sh | intro w1 sh); have F := sh.facts; (try simp only [Hp.Facts, Hp.CellsAt, BatP.cellsAt_bt, Nat.reduceAdd, Hp.c1, Hp.c2] at F))
                  | fail)
              go_fit (KP.out _ sh.data.1 sh.data.2.2)
              rintro e w1 ⟨s3, k3, rfl, hn9, hr9, hb9, -, -, -⟩
              replace sh := Hp.gain sh hb9 hn9 hr9
              clear hn9 hr9 hb9
              (try clear F); (have F := sh.facts; (try simp only [BatP.cellsAt_bt, Hp.Facts, Hp.CellsAt, BatP.cellsAt_bt, Nat.reduceAdd, Hp.c1, Hp.c2] at F))
              have tok_b10 : True := trivial
              go_wp2_with (first
                  | ((with_reducible refine Hp.at_st 23 ?_ ?_); (rotate_left; exact rfl); (refine Hp.bst_arr 0 sh rfl rfl rfl HDG.out (by kernel_rfl) ?_); clear sh; (try clear F); go_simp; intro w1 sh; (have F := sh.facts; (try simp only [BatP.cellsAt_bt, Hp.Facts, Hp.CellsAt, BatP.cellsAt_bt, Nat.reduceAdd, Hp.c1, Hp.c2] at F)))
                  | ((with_reducible refine Hp.at_ld 23 ?_); (first | refine Hp.bld_g 0 sh rfl rfl rfl (by kernel_rfl) (BatP.dg_size HAL.out) ?_ | refine Hp.bld_g 0 sh rfl rfl rfl (by kernel_rfl) (BatP.dg_size HDL.out) ?_ | refine Hp.bld_g 0 sh rfl rfl rfl (by kernel_rfl) (BatP.dg_size HEL.out) ?_ | refine Hp.bld_g 1 sh rfl rfl rfl (by kernel_rfl) (BatP.dg_size HAL.out) ?_ | refine Hp.bld_g 1 sh rfl rfl rfl (by kernel_rfl) (BatP.dg_size HDL.out) ?_ | refine Hp.bld_g 1 sh rfl rfl rfl (by kernel_rfl) (BatP.dg_size HEL.out) ?_ | refine Hp.bld_g 2 sh rfl rfl rfl (by kernel_rfl) (BatP.dg_size HAL.out) ?_ | refine Hp.bld_g 2 sh rfl rfl rfl (by kernel_rfl) (BatP.dg_size HDL.out) ?_ | refine Hp.bld_g 2 sh rfl rfl rfl (by kernel_rfl) (BatP.dg_size HEL.out) ?_); go_simp)
                  | ((with_reducible first | refine Hp.wpl_box sh ?_ ?_ | refine Hp.wpl_alloc Tryd.z_ev sh ?_ ?_ | refine Hp.wpl_alloc Tryd.z_bt sh ?_ ?_ | refine Hp.wpl_alloc Tryd.z_dg sh ?_ ?_ | refine Hp.atl_store ?_ ?_); exact rfl; (try (apply Hp.wsA _ _ _ sh; exact rfl; (iterate 8 try first | exact Hp.az | apply Hp.aw); rfl; kernel_rfl)); clear sh; (try clear F); go_simp; (first | (have tok := tok_b10; clear tok tok_b10; intro b10 w1 sh) | intro b w1 sh | intro w1 sh); have F := sh.facts; (try simp only [Hp.Facts, Hp.CellsAt, BatP.cellsAt_bt, Nat.reduceAdd, Hp.c1, Hp.c2] at F))
                  | fail)
              go_fit (KR.out _ sh.data.2.2.1 sh.data.2.2.2)
              rintro e w1 ⟨s4, k4, rfl, hn9, hr9, hb9, -, -, -⟩
              replace sh := Hp.gain sh hb9 hn9 hr9
              clear hn9 hr9 hb9
              (try clear F); (have F := sh.facts; (try simp only [BatP.cellsAt_bt, Hp.Facts, Hp.CellsAt, BatP.cellsAt_bt, Nat.reduceAdd, Hp.c1, Hp.c2] at F))
              have tok_b13 : True := trivial
              go_wp2_with (first
                  | ((with_reducible refine Hp.at_st 23 ?_ ?_); (rotate_left; exact rfl); (refine Hp.bst_arr 0 sh rfl rfl rfl HEG.out (by kernel_rfl) ?_); clear sh; (try clear F); go_simp; intro w1 sh; (have F := sh.facts; (try simp only [BatP.cellsAt_bt, Hp.Facts, Hp.CellsAt, BatP.cellsAt_bt, Nat.reduceAdd, Hp.c1, Hp.c2] at F)))
                  | ((with_reducible refine Hp.at_ld 23 ?_); (first | refine Hp.bld_g 0 sh rfl rfl rfl (by kernel_rfl) (BatP.dg_size HAL.out) ?_ | refine Hp.bld_g 0 sh rfl rfl rfl (by kernel_rfl) (BatP.dg_size HDL.out) ?_ | refine Hp.bld_g 0 sh rfl rfl rfl (by kernel_rfl) (BatP.dg_size HEL.out) ?_ | refine Hp.bld_g 1 sh rfl rfl rfl (by kernel_rfl) (BatP.dg_size HAL.out) ?_ | refine Hp.bld_g 1 sh rfl rfl rfl (by kernel_rfl) (BatP.dg_size HDL.out) ?_ | refine Hp.bld_g 1 sh rfl rfl rfl (by kernel_rfl) (BatP.dg_size HEL.out) ?_ | refine Hp.bld_g 2 sh rfl rfl rfl (by kernel_rfl) (BatP.dg_size HAL.out) ?_ | refine Hp.bld_g 2 sh rfl rfl rfl (by kernel_rfl) (BatP.dg_size HDL.out) ?_ | refine Hp.bld_g 2 sh rfl rfl rfl (by kernel_rfl) (BatP.dg_size HEL.out) ?_); go_simp)
                  | ((with_reducible first | refine Hp.wpl_box sh ?_ ?_ | refine Hp.wpl_alloc Tryd.z_ev sh ?_ ?_ | refine Hp.wpl_alloc Tryd.z_bt sh ?_ ?_ | refine Hp.wpl_alloc Tryd.z_dg sh ?_ ?_ | refine Hp.atl_store ?_ ?_); exact rfl; (try (apply Hp.wsA _ _ _ sh; exact rfl; (iterate 8 try first | exact Hp.az | apply Hp.aw); rfl; kernel_rfl)); clear sh; (try clear F); go_simp; (first | (have tok := tok_b13; clear tok tok_b13; intro b13 w1 sh) | intro b w1 sh | intro w1 sh); have F := sh.facts; (try simp only [Hp.Facts, Hp.CellsAt, BatP.cellsAt_bt, Nat.reduceAdd, Hp.c1, Hp.c2] at F))
                  | fail)
              go_fit (KC.out _ sh.data.2.2.1 sh.data.2.2.2.1 sh.data.2.2.2.2)
              rintro e w1 ⟨rfl, hb⟩
              replace sh := sh.call hb; clear hb; (try clear F); have F := sh.facts; (try simp only [Hp.Facts, Hp.CellsAt, BatP.cellsAt_bt, Nat.reduceAdd, Hp.c1, Hp.c2] at F)
              go_wp2_with (first
                  | ((with_reducible first | refine Hp.wpl_box sh ?_ ?_ | refine Hp.wpl_alloc Tryd.z_ev sh ?_ ?_ | refine Hp.wpl_alloc Tryd.z_bt sh ?_ ?_ | refine Hp.wpl_alloc Tryd.z_dg sh ?_ ?_ | refine Hp.atl_store ?_ ?_); exact rfl; (try (apply Hp.wsA _ _ _ sh; exact rfl; (iterate 8 try first | exact Hp.az | apply Hp.aw); rfl; kernel_rfl)); clear sh; (try clear F); go_simp; (first | intro b w1 sh | intro w1 sh); have F := sh.facts; (try simp only [Hp.Facts, Hp.CellsAt, BatP.cellsAt_bt, Nat.reduceAdd, Hp.c1, Hp.c2] at F))
                  | fail)
              go_fit (KS.out _ sh.data.2.2.1 sh.data.2.2.2.1)
              rintro e w1 ⟨rfl, hb⟩
              replace sh := sh.call hb; clear hb; (try clear F); have F := sh.facts; (try simp only [Hp.Facts, Hp.CellsAt, BatP.cellsAt_bt, Nat.reduceAdd, Hp.c1, Hp.c2] at F)
              go_wp2_with (first
                  | ((with_reducible first | refine Hp.wpl_box sh ?_ ?_ | refine Hp.wpl_alloc Tryd.z_ev sh ?_ ?_ | refine Hp.wpl_alloc Tryd.z_bt sh ?_ ?_ | refine Hp.wpl_alloc Tryd.z_dg sh ?_ ?_ | refine Hp.atl_store ?_ ?_); exact rfl; (try (apply Hp.wsA _ _ _ sh; exact rfl; (iterate 8 try first | exact Hp.az | apply Hp.aw); rfl; kernel_rfl)); clear sh; (try clear F); go_simp; (first | intro b w1 sh | intro w1 sh); have F := sh.facts; (try simp only [Hp.Facts, Hp.CellsAt, BatP.cellsAt_bt, Nat.reduceAdd, Hp.c1, Hp.c2] at F))
                  | fail)
              go_fit (KL.out _ sh.data.2.2.2.2)
              rintro e w1 ⟨rfl, hb⟩
              replace sh := sh.call hb; clear hb; (try clear F); have F := sh.facts; (try simp only [Hp.Facts, Hp.CellsAt, BatP.cellsAt_bt, Nat.reduceAdd, Hp.c1, Hp.c2] at F)
              go_wp2_with (first
                  | ((with_reducible first | refine Hp.wpl_box sh ?_ ?_ | refine Hp.wpl_alloc Tryd.z_ev sh ?_ ?_ | refine Hp.wpl_alloc Tryd.z_bt sh ?_ ?_ | refine Hp.wpl_alloc Tryd.z_dg sh ?_ ?_ | refine Hp.atl_store ?_ ?_); exact rfl; (try (apply Hp.wsA _ _ _ sh; exact rfl; (iterate 8 try first | exact Hp.az | apply Hp.aw); rfl; kernel_rfl)); clear sh; (try clear F); go_simp; (first | intro b w1 sh | intro w1 sh); have F := sh.facts; (try simp only [Hp.Facts, Hp.CellsAt, BatP.cellsAt_bt, Nat.reduceAdd, Hp.c1, Hp.c2] at F))
                  | fail)
              go_fit (KE.out s3 s4 k3 k4 _ sh.data.2.1 sh.data.1)
              rintro e w1 ⟨rfl, hb⟩
              replace sh := sh.call hb; clear hb; (try clear F); have F := sh.facts; (try simp only [Hp.Facts, Hp.CellsAt, BatP.cellsAt_bt, Nat.reduceAdd, Hp.c1, Hp.c2] at F)
              go_wp2_with (first
                  | ((with_reducible first | refine Hp.wpl_box sh ?_ ?_ | refine Hp.wpl_alloc Tryd.z_ev sh ?_ ?_ | refine Hp.wpl_alloc Tryd.z_bt sh ?_ ?_ | refine Hp.wpl_alloc Tryd.z_dg sh ?_ ?_ | refine Hp.atl_store ?_ ?_); exact rfl; (try (apply Hp.wsA _ _ _ sh; exact rfl; (iterate 8 try first | exact Hp.az | apply Hp.aw); rfl; kernel_rfl)); clear sh; (try clear F); go_simp; (first | intro b w1 sh | intro w1 sh); have F := sh.facts; (try simp only [Hp.Facts, Hp.CellsAt, BatP.cellsAt_bt, Nat.reduceAdd, Hp.c1, Hp.c2] at F))
                  | fail)
              go_ret
              exact ⟨by first | rfl | simp, sh.below⟩
            · obtain ⟨x40, y40⟩ := ChnP.clash_top a2 b2 hC
              rw [hC] at KC
              rw [show decide (A = B) = false by simpa using hAB] at KS
              unfold ChnP.claV at KC
              dsimp only at KC
              have KX := Lib.hid (fun W g => cof x (by omega) W g)
              have KY := Lib.hid (fun W g => cof y (by omega) W g)
              rw [hof] at KX
              have z1 := ChnP.bstr_nn hxy
              have z2 := ChnP.bstr_ne hxy
              have HZ := bdeq (DigP.of y) (DigP.of y) (ChnP.of_len y) (ChnP.of_len y)
              rw [show (DigP.of y == DigP.of y) = true by simp] at HZ
              generalize DigP.of y = dg at KX KY HZ
              clear hn hm hA hB ha a1 a2 b1 b2 hX hY h32 k32 htop ht hu x1 x2 y1 y2 hne hne2 hC x40 y40 hxy hof hAB
              go_enter Tryd.func7, Tryd.ntmps7
              have F := sh.facts; (try simp only [Hp.Facts, Hp.CellsAt, BatP.cellsAt_bt, Nat.reduceAdd, Hp.c1, Hp.c2] at F)
              have tok_b4 : True := trivial
              go_wp2_with (first
                  | ((with_reducible first | refine Hp.wpl_box sh ?_ ?_ | refine Hp.wpl_alloc Tryd.z_ev sh ?_ ?_ | refine Hp.wpl_alloc Tryd.z_bt sh ?_ ?_ | refine Hp.wpl_alloc Tryd.z_dg sh ?_ ?_ | refine Hp.atl_store ?_ ?_); exact rfl; (try (apply Hp.wsA _ _ _ sh; exact rfl; (iterate 8 try first | exact Hp.az | apply Hp.aw); rfl; kernel_rfl)); clear sh; (try clear F); go_simp; (first | (have tok := tok_b4; clear tok tok_b4; intro b4 w1 sh) | intro b w1 sh | intro w1 sh); have F := sh.facts; (try simp only [Hp.Facts, Hp.CellsAt, BatP.cellsAt_bt, Nat.reduceAdd, Hp.c1, Hp.c2] at F))
                  | fail)
              go_fit (K0.out _ sh.data.1)
              rintro e w1 ⟨rfl, hb⟩
              replace sh := sh.call hb; clear hb; (try clear F); have F := sh.facts; (try simp only [Hp.Facts, Hp.CellsAt, BatP.cellsAt_bt, Nat.reduceAdd, Hp.c1, Hp.c2] at F)
              go_wp2_with (first
                  | ((with_reducible first | refine Hp.wpl_box sh ?_ ?_ | refine Hp.wpl_alloc Tryd.z_ev sh ?_ ?_ | refine Hp.wpl_alloc Tryd.z_bt sh ?_ ?_ | refine Hp.wpl_alloc Tryd.z_dg sh ?_ ?_ | refine Hp.atl_store ?_ ?_); exact rfl; (try (apply Hp.wsA _ _ _ sh; exact rfl; (iterate 8 try first | exact Hp.az | apply Hp.aw); rfl; kernel_rfl)); clear sh; (try clear F); go_simp; (first | intro b w1 sh | intro w1 sh); have F := sh.facts; (try simp only [Hp.Facts, Hp.CellsAt, BatP.cellsAt_bt, Nat.reduceAdd, Hp.c1, Hp.c2] at F))
                  | fail)
              go_fit (K1.out _ sh.data.2.1)
              rintro e w1 ⟨rfl, hb⟩
              replace sh := sh.call hb; clear hb; (try clear F); have F := sh.facts; (try simp only [Hp.Facts, Hp.CellsAt, BatP.cellsAt_bt, Nat.reduceAdd, Hp.c1, Hp.c2] at F)
              go_wp2_with (first
                  | ((with_reducible refine Hp.at_ld 23 ?_); (first | refine Hp.bld_g 0 sh rfl rfl rfl (by kernel_rfl) (BatP.dg_size HAL.out) ?_ | refine Hp.bld_g 0 sh rfl rfl rfl (by kernel_rfl) (BatP.dg_size HDL.out) ?_ | refine Hp.bld_g 0 sh rfl rfl rfl (by kernel_rfl) (BatP.dg_size HEL.out) ?_ | refine Hp.bld_g 1 sh rfl rfl rfl (by kernel_rfl) (BatP.dg_size HAL.out) ?_ | refine Hp.bld_g 1 sh rfl rfl rfl (by kernel_rfl) (BatP.dg_size HDL.out) ?_ | refine Hp.bld_g 1 sh rfl rfl rfl (by kernel_rfl) (BatP.dg_size HEL.out) ?_ | refine Hp.bld_g 2 sh rfl rfl rfl (by kernel_rfl) (BatP.dg_size HAL.out) ?_ | refine Hp.bld_g 2 sh rfl rfl rfl (by kernel_rfl) (BatP.dg_size HDL.out) ?_ | refine Hp.bld_g 2 sh rfl rfl rfl (by kernel_rfl) (BatP.dg_size HEL.out) ?_); go_simp)
                  | ((with_reducible first | refine Hp.wpl_box sh ?_ ?_ | refine Hp.wpl_alloc Tryd.z_ev sh ?_ ?_ | refine Hp.wpl_alloc Tryd.z_bt sh ?_ ?_ | refine Hp.wpl_alloc Tryd.z_dg sh ?_ ?_ | refine Hp.atl_store ?_ ?_); exact rfl; (try (apply Hp.wsA _ _ _ sh; exact rfl; (iterate 8 try first | exact Hp.az | apply Hp.aw); rfl; kernel_rfl)); clear sh; (try clear F); go_simp; (first | intro b w1 sh | intro w1 sh); have F := sh.facts; (try simp only [Hp.Facts, Hp.CellsAt, BatP.cellsAt_bt, Nat.reduceAdd, Hp.c1, Hp.c2] at F))
                  | fail)
              go_fit (KP.out _ sh.data.1 sh.data.2.2)
              rintro e w1 ⟨s3, k3, rfl, hn9, hr9, hb9, -, -, -⟩
              replace sh := Hp.gain sh hb9 hn9 hr9
              clear hn9 hr9 hb9
              (try clear F); (have F := sh.facts; (try simp only [BatP.cellsAt_bt, Hp.Facts, Hp.CellsAt, BatP.cellsAt_bt, Nat.reduceAdd, Hp.c1, Hp.c2] at F))
              have tok_b10 : True := trivial
              go_wp2_with (first
                  | ((with_reducible refine Hp.at_st 23 ?_ ?_); (rotate_left; exact rfl); (refine Hp.bst_arr 0 sh rfl rfl rfl HDG.out (by kernel_rfl) ?_); clear sh; (try clear F); go_simp; intro w1 sh; (have F := sh.facts; (try simp only [BatP.cellsAt_bt, Hp.Facts, Hp.CellsAt, BatP.cellsAt_bt, Nat.reduceAdd, Hp.c1, Hp.c2] at F)))
                  | ((with_reducible refine Hp.at_ld 23 ?_); (first | refine Hp.bld_g 0 sh rfl rfl rfl (by kernel_rfl) (BatP.dg_size HAL.out) ?_ | refine Hp.bld_g 0 sh rfl rfl rfl (by kernel_rfl) (BatP.dg_size HDL.out) ?_ | refine Hp.bld_g 0 sh rfl rfl rfl (by kernel_rfl) (BatP.dg_size HEL.out) ?_ | refine Hp.bld_g 1 sh rfl rfl rfl (by kernel_rfl) (BatP.dg_size HAL.out) ?_ | refine Hp.bld_g 1 sh rfl rfl rfl (by kernel_rfl) (BatP.dg_size HDL.out) ?_ | refine Hp.bld_g 1 sh rfl rfl rfl (by kernel_rfl) (BatP.dg_size HEL.out) ?_ | refine Hp.bld_g 2 sh rfl rfl rfl (by kernel_rfl) (BatP.dg_size HAL.out) ?_ | refine Hp.bld_g 2 sh rfl rfl rfl (by kernel_rfl) (BatP.dg_size HDL.out) ?_ | refine Hp.bld_g 2 sh rfl rfl rfl (by kernel_rfl) (BatP.dg_size HEL.out) ?_); go_simp)
                  | ((with_reducible first | refine Hp.wpl_box sh ?_ ?_ | refine Hp.wpl_alloc Tryd.z_ev sh ?_ ?_ | refine Hp.wpl_alloc Tryd.z_bt sh ?_ ?_ | refine Hp.wpl_alloc Tryd.z_dg sh ?_ ?_ | refine Hp.atl_store ?_ ?_); exact rfl; (try (apply Hp.wsA _ _ _ sh; exact rfl; (iterate 8 try first | exact Hp.az | apply Hp.aw); rfl; kernel_rfl)); clear sh; (try clear F); go_simp; (first | (have tok := tok_b10; clear tok tok_b10; intro b10 w1 sh) | intro b w1 sh | intro w1 sh); have F := sh.facts; (try simp only [Hp.Facts, Hp.CellsAt, BatP.cellsAt_bt, Nat.reduceAdd, Hp.c1, Hp.c2] at F))
                  | fail)
              go_fit (KR.out _ sh.data.2.2.1 sh.data.2.2.2)
              rintro e w1 ⟨s4, k4, rfl, hn9, hr9, hb9, -, -, -⟩
              replace sh := Hp.gain sh hb9 hn9 hr9
              clear hn9 hr9 hb9
              (try clear F); (have F := sh.facts; (try simp only [BatP.cellsAt_bt, Hp.Facts, Hp.CellsAt, BatP.cellsAt_bt, Nat.reduceAdd, Hp.c1, Hp.c2] at F))
              have tok_b13 : True := trivial
              go_wp2_with (first
                  | ((with_reducible refine Hp.at_st 23 ?_ ?_); (rotate_left; exact rfl); (refine Hp.bst_arr 0 sh rfl rfl rfl HEG.out (by kernel_rfl) ?_); clear sh; (try clear F); go_simp; intro w1 sh; (have F := sh.facts; (try simp only [BatP.cellsAt_bt, Hp.Facts, Hp.CellsAt, BatP.cellsAt_bt, Nat.reduceAdd, Hp.c1, Hp.c2] at F)))
                  | ((with_reducible refine Hp.at_ld 23 ?_); (first | refine Hp.bld_g 0 sh rfl rfl rfl (by kernel_rfl) (BatP.dg_size HAL.out) ?_ | refine Hp.bld_g 0 sh rfl rfl rfl (by kernel_rfl) (BatP.dg_size HDL.out) ?_ | refine Hp.bld_g 0 sh rfl rfl rfl (by kernel_rfl) (BatP.dg_size HEL.out) ?_ | refine Hp.bld_g 1 sh rfl rfl rfl (by kernel_rfl) (BatP.dg_size HAL.out) ?_ | refine Hp.bld_g 1 sh rfl rfl rfl (by kernel_rfl) (BatP.dg_size HDL.out) ?_ | refine Hp.bld_g 1 sh rfl rfl rfl (by kernel_rfl) (BatP.dg_size HEL.out) ?_ | refine Hp.bld_g 2 sh rfl rfl rfl (by kernel_rfl) (BatP.dg_size HAL.out) ?_ | refine Hp.bld_g 2 sh rfl rfl rfl (by kernel_rfl) (BatP.dg_size HDL.out) ?_ | refine Hp.bld_g 2 sh rfl rfl rfl (by kernel_rfl) (BatP.dg_size HEL.out) ?_); go_simp)
                  | ((with_reducible first | refine Hp.wpl_box sh ?_ ?_ | refine Hp.wpl_alloc Tryd.z_ev sh ?_ ?_ | refine Hp.wpl_alloc Tryd.z_bt sh ?_ ?_ | refine Hp.wpl_alloc Tryd.z_dg sh ?_ ?_ | refine Hp.atl_store ?_ ?_); exact rfl; (try (apply Hp.wsA _ _ _ sh; exact rfl; (iterate 8 try first | exact Hp.az | apply Hp.aw); rfl; kernel_rfl)); clear sh; (try clear F); go_simp; (first | (have tok := tok_b13; clear tok tok_b13; intro b13 w1 sh) | intro b w1 sh | intro w1 sh); have F := sh.facts; (try simp only [Hp.Facts, Hp.CellsAt, BatP.cellsAt_bt, Nat.reduceAdd, Hp.c1, Hp.c2] at F))
                  | fail)
              go_fit (KC.out _ sh.data.2.2.1 sh.data.2.2.2.1 sh.data.2.2.2.2)
              rintro e w1 ⟨rfl, hb⟩
              replace sh := sh.call hb; clear hb; (try clear F); have F := sh.facts; (try simp only [Hp.Facts, Hp.CellsAt, BatP.cellsAt_bt, Nat.reduceAdd, Hp.c1, Hp.c2] at F)
              go_wp2_with (first
                  | ((with_reducible first | refine Hp.wpl_box sh ?_ ?_ | refine Hp.wpl_alloc Tryd.z_ev sh ?_ ?_ | refine Hp.wpl_alloc Tryd.z_bt sh ?_ ?_ | refine Hp.wpl_alloc Tryd.z_dg sh ?_ ?_ | refine Hp.atl_store ?_ ?_); exact rfl; (try (apply Hp.wsA _ _ _ sh; exact rfl; (iterate 8 try first | exact Hp.az | apply Hp.aw); rfl; kernel_rfl)); clear sh; (try clear F); go_simp; (first | intro b w1 sh | intro w1 sh); have F := sh.facts; (try simp only [Hp.Facts, Hp.CellsAt, BatP.cellsAt_bt, Nat.reduceAdd, Hp.c1, Hp.c2] at F))
                  | fail)
              go_fit (KS.out _ sh.data.2.2.1 sh.data.2.2.2.1)
              rintro e w1 ⟨rfl, hb⟩
              replace sh := sh.call hb; clear hb; (try clear F); have F := sh.facts; (try simp only [Hp.Facts, Hp.CellsAt, BatP.cellsAt_bt, Nat.reduceAdd, Hp.c1, Hp.c2] at F)
              go_wp2_with (first
                  | ((with_reducible first | refine Hp.wpl_box sh ?_ ?_ | refine Hp.wpl_alloc Tryd.z_ev sh ?_ ?_ | refine Hp.wpl_alloc Tryd.z_bt sh ?_ ?_ | refine Hp.wpl_alloc Tryd.z_dg sh ?_ ?_ | refine Hp.atl_store ?_ ?_); exact rfl; (try (apply Hp.wsA _ _ _ sh; exact rfl; (iterate 8 try first | exact Hp.az | apply Hp.aw); rfl; kernel_rfl)); clear sh; (try clear F); go_simp; (first | intro b w1 sh | intro w1 sh); have F := sh.facts; (try simp only [Hp.Facts, Hp.CellsAt, BatP.cellsAt_bt, Nat.reduceAdd, Hp.c1, Hp.c2] at F))
                  | fail)
              go_fit (KL.out _ sh.data.2.2.2.2)
              rintro e w1 ⟨rfl, hb⟩
              replace sh := sh.call hb; clear hb; (try clear F); have F := sh.facts; (try simp only [Hp.Facts, Hp.CellsAt, BatP.cellsAt_bt, Nat.reduceAdd, Hp.c1, Hp.c2] at F)
              go_wp2_with (first
                  | ((with_reducible first | refine Hp.wpl_box sh ?_ ?_ | refine Hp.wpl_alloc Tryd.z_ev sh ?_ ?_ | refine Hp.wpl_alloc Tryd.z_bt sh ?_ ?_ | refine Hp.wpl_alloc Tryd.z_dg sh ?_ ?_ | refine Hp.atl_store ?_ ?_); exact rfl; (try (apply Hp.wsA _ _ _ sh; exact rfl; (iterate 8 try first | exact Hp.az | apply Hp.aw); rfl; kernel_rfl)); clear sh; (try clear F); go_simp; (first | intro b w1 sh | intro w1 sh); have F := sh.facts; (try simp only [Hp.Facts, Hp.CellsAt, BatP.cellsAt_bt, Nat.reduceAdd, Hp.c1, Hp.c2] at F))
                  | fail)
              go_fit (KX.out _ sh.data.2.2.2.2)
              rintro e w1 ⟨rfl, hb⟩
              replace sh := sh.call hb; clear hb; (try clear F); have F := sh.facts; (try simp only [Hp.Facts, Hp.CellsAt, BatP.cellsAt_bt, Nat.reduceAdd, Hp.c1, Hp.c2] at F)
              go_wp2_with (first
                  | ((with_reducible first | refine Hp.wpl_box sh ?_ ?_ | refine Hp.wpl_alloc Tryd.z_ev sh ?_ ?_ | refine Hp.wpl_alloc Tryd.z_bt sh ?_ ?_ | refine Hp.wpl_alloc Tryd.z_dg sh ?_ ?_ | refine Hp.atl_store ?_ ?_); exact rfl; (try (apply Hp.wsA _ _ _ sh; exact rfl; (iterate 8 try first | exact Hp.az | apply Hp.aw); rfl; kernel_rfl)); clear sh; (try clear F); go_simp; (first | intro b w1 sh | intro w1 sh); have F := sh.facts; (try simp only [Hp.Facts, Hp.CellsAt, BatP.cellsAt_bt, Nat.reduceAdd, Hp.c1, Hp.c2] at F))
                  | fail)
              go_fit (KY.out _ sh.data.2.2.2.2)
              rintro e w1 ⟨rfl, hb⟩
              replace sh := sh.call hb; clear hb; (try clear F); have F := sh.facts; (try simp only [Hp.Facts, Hp.CellsAt, BatP.cellsAt_bt, Nat.reduceAdd, Hp.c1, Hp.c2] at F)
              go_wp2_with (first
                  | ((with_reducible first | refine Hp.wpl_box sh ?_ ?_ | refine Hp.wpl_alloc Tryd.z_ev sh ?_ ?_ | refine Hp.wpl_alloc Tryd.z_bt sh ?_ ?_ | refine Hp.wpl_alloc Tryd.z_dg sh ?_ ?_ | refine Hp.atl_store ?_ ?_); exact rfl; (try (apply Hp.wsA _ _ _ sh; exact rfl; (iterate 8 try first | exact Hp.az | apply Hp.aw); rfl; kernel_rfl)); clear sh; (try clear F); go_simp; (first | intro b w1 sh | intro w1 sh); have F := sh.facts; (try simp only [Hp.Facts, Hp.CellsAt, BatP.cellsAt_bt, Nat.reduceAdd, Hp.c1, Hp.c2] at F))
                  | fail)
              go_ret
              exact ⟨by first | rfl | simp, sh.below⟩
          · subst he he2
            rw [show (d == e) = false by simpa using hde] at HD
            clear hn hm hA hB ha a1 a2 b1 b2 hX hY h32 k32 htop ht hu hde
            go_enter Tryd.func7, Tryd.ntmps7
            have F := sh.facts; (try simp only [Hp.Facts, Hp.CellsAt, BatP.cellsAt_bt, Nat.reduceAdd, Hp.c1, Hp.c2] at F)
            have tok_b4 : True := trivial
            go_wp2_with (first
                | ((with_reducible first | refine Hp.wpl_box sh ?_ ?_ | refine Hp.wpl_alloc Tryd.z_ev sh ?_ ?_ | refine Hp.wpl_alloc Tryd.z_bt sh ?_ ?_ | refine Hp.wpl_alloc Tryd.z_dg sh ?_ ?_ | refine Hp.atl_store ?_ ?_); exact rfl; (try (apply Hp.wsA _ _ _ sh; exact rfl; (iterate 8 try first | exact Hp.az | apply Hp.aw); rfl; kernel_rfl)); clear sh; (try clear F); go_simp; (first | (have tok := tok_b4; clear tok tok_b4; intro b4 w1 sh) | intro b w1 sh | intro w1 sh); have F := sh.facts; (try simp only [Hp.Facts, Hp.CellsAt, BatP.cellsAt_bt, Nat.reduceAdd, Hp.c1, Hp.c2] at F))
                | fail)
            go_fit (K0.out _ sh.data.1)
            rintro e w1 ⟨rfl, hb⟩
            replace sh := sh.call hb; clear hb; (try clear F); have F := sh.facts; (try simp only [Hp.Facts, Hp.CellsAt, BatP.cellsAt_bt, Nat.reduceAdd, Hp.c1, Hp.c2] at F)
            go_wp2_with (first
                | ((with_reducible first | refine Hp.wpl_box sh ?_ ?_ | refine Hp.wpl_alloc Tryd.z_ev sh ?_ ?_ | refine Hp.wpl_alloc Tryd.z_bt sh ?_ ?_ | refine Hp.wpl_alloc Tryd.z_dg sh ?_ ?_ | refine Hp.atl_store ?_ ?_); exact rfl; (try (apply Hp.wsA _ _ _ sh; exact rfl; (iterate 8 try first | exact Hp.az | apply Hp.aw); rfl; kernel_rfl)); clear sh; (try clear F); go_simp; (first | intro b w1 sh | intro w1 sh); have F := sh.facts; (try simp only [Hp.Facts, Hp.CellsAt, BatP.cellsAt_bt, Nat.reduceAdd, Hp.c1, Hp.c2] at F))
                | fail)
            go_fit (K1.out _ sh.data.2.1)
            rintro e w1 ⟨rfl, hb⟩
            replace sh := sh.call hb; clear hb; (try clear F); have F := sh.facts; (try simp only [Hp.Facts, Hp.CellsAt, BatP.cellsAt_bt, Nat.reduceAdd, Hp.c1, Hp.c2] at F)
            go_wp2_with (first
                | ((with_reducible refine Hp.at_ld 23 ?_); (first | refine Hp.bld_g 0 sh rfl rfl rfl (by kernel_rfl) (BatP.dg_size HAL.out) ?_ | refine Hp.bld_g 0 sh rfl rfl rfl (by kernel_rfl) (BatP.dg_size HDL.out) ?_ | refine Hp.bld_g 0 sh rfl rfl rfl (by kernel_rfl) (BatP.dg_size HEL.out) ?_ | refine Hp.bld_g 1 sh rfl rfl rfl (by kernel_rfl) (BatP.dg_size HAL.out) ?_ | refine Hp.bld_g 1 sh rfl rfl rfl (by kernel_rfl) (BatP.dg_size HDL.out) ?_ | refine Hp.bld_g 1 sh rfl rfl rfl (by kernel_rfl) (BatP.dg_size HEL.out) ?_ | refine Hp.bld_g 2 sh rfl rfl rfl (by kernel_rfl) (BatP.dg_size HAL.out) ?_ | refine Hp.bld_g 2 sh rfl rfl rfl (by kernel_rfl) (BatP.dg_size HDL.out) ?_ | refine Hp.bld_g 2 sh rfl rfl rfl (by kernel_rfl) (BatP.dg_size HEL.out) ?_); go_simp)
                | ((with_reducible first | refine Hp.wpl_box sh ?_ ?_ | refine Hp.wpl_alloc Tryd.z_ev sh ?_ ?_ | refine Hp.wpl_alloc Tryd.z_bt sh ?_ ?_ | refine Hp.wpl_alloc Tryd.z_dg sh ?_ ?_ | refine Hp.atl_store ?_ ?_); exact rfl; (try (apply Hp.wsA _ _ _ sh; exact rfl; (iterate 8 try first | exact Hp.az | apply Hp.aw); rfl; kernel_rfl)); clear sh; (try clear F); go_simp; (first | intro b w1 sh | intro w1 sh); have F := sh.facts; (try simp only [Hp.Facts, Hp.CellsAt, BatP.cellsAt_bt, Nat.reduceAdd, Hp.c1, Hp.c2] at F))
                | fail)
            go_fit (KP.out _ sh.data.1 sh.data.2.2)
            rintro e w1 ⟨s3, k3, rfl, hn9, hr9, hb9, -, -, -⟩
            replace sh := Hp.gain sh hb9 hn9 hr9
            clear hn9 hr9 hb9
            (try clear F); (have F := sh.facts; (try simp only [BatP.cellsAt_bt, Hp.Facts, Hp.CellsAt, BatP.cellsAt_bt, Nat.reduceAdd, Hp.c1, Hp.c2] at F))
            have tok_b10 : True := trivial
            go_wp2_with (first
                | ((with_reducible refine Hp.at_st 23 ?_ ?_); (rotate_left; exact rfl); (refine Hp.bst_arr 0 sh rfl rfl rfl HDG.out (by kernel_rfl) ?_); clear sh; (try clear F); go_simp; intro w1 sh; (have F := sh.facts; (try simp only [BatP.cellsAt_bt, Hp.Facts, Hp.CellsAt, BatP.cellsAt_bt, Nat.reduceAdd, Hp.c1, Hp.c2] at F)))
                | ((with_reducible refine Hp.at_ld 23 ?_); (first | refine Hp.bld_g 0 sh rfl rfl rfl (by kernel_rfl) (BatP.dg_size HAL.out) ?_ | refine Hp.bld_g 0 sh rfl rfl rfl (by kernel_rfl) (BatP.dg_size HDL.out) ?_ | refine Hp.bld_g 0 sh rfl rfl rfl (by kernel_rfl) (BatP.dg_size HEL.out) ?_ | refine Hp.bld_g 1 sh rfl rfl rfl (by kernel_rfl) (BatP.dg_size HAL.out) ?_ | refine Hp.bld_g 1 sh rfl rfl rfl (by kernel_rfl) (BatP.dg_size HDL.out) ?_ | refine Hp.bld_g 1 sh rfl rfl rfl (by kernel_rfl) (BatP.dg_size HEL.out) ?_ | refine Hp.bld_g 2 sh rfl rfl rfl (by kernel_rfl) (BatP.dg_size HAL.out) ?_ | refine Hp.bld_g 2 sh rfl rfl rfl (by kernel_rfl) (BatP.dg_size HDL.out) ?_ | refine Hp.bld_g 2 sh rfl rfl rfl (by kernel_rfl) (BatP.dg_size HEL.out) ?_); go_simp)
                | ((with_reducible first | refine Hp.wpl_box sh ?_ ?_ | refine Hp.wpl_alloc Tryd.z_ev sh ?_ ?_ | refine Hp.wpl_alloc Tryd.z_bt sh ?_ ?_ | refine Hp.wpl_alloc Tryd.z_dg sh ?_ ?_ | refine Hp.atl_store ?_ ?_); exact rfl; (try (apply Hp.wsA _ _ _ sh; exact rfl; (iterate 8 try first | exact Hp.az | apply Hp.aw); rfl; kernel_rfl)); clear sh; (try clear F); go_simp; (first | (have tok := tok_b10; clear tok tok_b10; intro b10 w1 sh) | intro b w1 sh | intro w1 sh); have F := sh.facts; (try simp only [Hp.Facts, Hp.CellsAt, BatP.cellsAt_bt, Nat.reduceAdd, Hp.c1, Hp.c2] at F))
                | fail)
            go_fit (KR.out _ sh.data.2.2.1 sh.data.2.2.2)
            rintro e w1 ⟨s4, k4, rfl, hn9, hr9, hb9, -, -, -⟩
            replace sh := Hp.gain sh hb9 hn9 hr9
            clear hn9 hr9 hb9
            (try clear F); (have F := sh.facts; (try simp only [BatP.cellsAt_bt, Hp.Facts, Hp.CellsAt, BatP.cellsAt_bt, Nat.reduceAdd, Hp.c1, Hp.c2] at F))
            have tok_b13 : True := trivial
            go_wp2_with (first
                | ((with_reducible refine Hp.at_st 23 ?_ ?_); (rotate_left; exact rfl); (refine Hp.bst_arr 0 sh rfl rfl rfl HEG.out (by kernel_rfl) ?_); clear sh; (try clear F); go_simp; intro w1 sh; (have F := sh.facts; (try simp only [BatP.cellsAt_bt, Hp.Facts, Hp.CellsAt, BatP.cellsAt_bt, Nat.reduceAdd, Hp.c1, Hp.c2] at F)))
                | ((with_reducible refine Hp.at_ld 23 ?_); (first | refine Hp.bld_g 0 sh rfl rfl rfl (by kernel_rfl) (BatP.dg_size HAL.out) ?_ | refine Hp.bld_g 0 sh rfl rfl rfl (by kernel_rfl) (BatP.dg_size HDL.out) ?_ | refine Hp.bld_g 0 sh rfl rfl rfl (by kernel_rfl) (BatP.dg_size HEL.out) ?_ | refine Hp.bld_g 1 sh rfl rfl rfl (by kernel_rfl) (BatP.dg_size HAL.out) ?_ | refine Hp.bld_g 1 sh rfl rfl rfl (by kernel_rfl) (BatP.dg_size HDL.out) ?_ | refine Hp.bld_g 1 sh rfl rfl rfl (by kernel_rfl) (BatP.dg_size HEL.out) ?_ | refine Hp.bld_g 2 sh rfl rfl rfl (by kernel_rfl) (BatP.dg_size HAL.out) ?_ | refine Hp.bld_g 2 sh rfl rfl rfl (by kernel_rfl) (BatP.dg_size HDL.out) ?_ | refine Hp.bld_g 2 sh rfl rfl rfl (by kernel_rfl) (BatP.dg_size HEL.out) ?_); go_simp)
                | ((with_reducible first | refine Hp.wpl_box sh ?_ ?_ | refine Hp.wpl_alloc Tryd.z_ev sh ?_ ?_ | refine Hp.wpl_alloc Tryd.z_bt sh ?_ ?_ | refine Hp.wpl_alloc Tryd.z_dg sh ?_ ?_ | refine Hp.atl_store ?_ ?_); exact rfl; (try (apply Hp.wsA _ _ _ sh; exact rfl; (iterate 8 try first | exact Hp.az | apply Hp.aw); rfl; kernel_rfl)); clear sh; (try clear F); go_simp; (first | (have tok := tok_b13; clear tok tok_b13; intro b13 w1 sh) | intro b w1 sh | intro w1 sh); have F := sh.facts; (try simp only [Hp.Facts, Hp.CellsAt, BatP.cellsAt_bt, Nat.reduceAdd, Hp.c1, Hp.c2] at F))
                | fail)
            go_fit (KL.out _ sh.data.2.2.2.2)
            rintro e w1 ⟨rfl, hb⟩
            replace sh := sh.call hb; clear hb; (try clear F); have F := sh.facts; (try simp only [Hp.Facts, Hp.CellsAt, BatP.cellsAt_bt, Nat.reduceAdd, Hp.c1, Hp.c2] at F)
            go_wp2_with (first
                | ((with_reducible first | refine Hp.wpl_box sh ?_ ?_ | refine Hp.wpl_alloc Tryd.z_ev sh ?_ ?_ | refine Hp.wpl_alloc Tryd.z_bt sh ?_ ?_ | refine Hp.wpl_alloc Tryd.z_dg sh ?_ ?_ | refine Hp.atl_store ?_ ?_); exact rfl; (try (apply Hp.wsA _ _ _ sh; exact rfl; (iterate 8 try first | exact Hp.az | apply Hp.aw); rfl; kernel_rfl)); clear sh; (try clear F); go_simp; (first | intro b w1 sh | intro w1 sh); have F := sh.facts; (try simp only [Hp.Facts, Hp.CellsAt, BatP.cellsAt_bt, Nat.reduceAdd, Hp.c1, Hp.c2] at F))
                | fail)
            go_ret
            exact ⟨by first | rfl | simp, sh.below⟩
        · have d1 : (es != 0) = true := by simpa using he2
          subst he
          clear hn hm hA hB ha a1 a2 b1 b2 hX hY h32 k32 htop ht hu he2 HD
          go_enter Tryd.func7, Tryd.ntmps7
          have F := sh.facts; (try simp only [Hp.Facts, Hp.CellsAt, BatP.cellsAt_bt, Nat.reduceAdd, Hp.c1, Hp.c2] at F)
          have tok_b4 : True := trivial
          go_wp2_with (first
              | ((with_reducible first | refine Hp.wpl_box sh ?_ ?_ | refine Hp.wpl_alloc Tryd.z_ev sh ?_ ?_ | refine Hp.wpl_alloc Tryd.z_bt sh ?_ ?_ | refine Hp.wpl_alloc Tryd.z_dg sh ?_ ?_ | refine Hp.atl_store ?_ ?_); exact rfl; (try (apply Hp.wsA _ _ _ sh; exact rfl; (iterate 8 try first | exact Hp.az | apply Hp.aw); rfl; kernel_rfl)); clear sh; (try clear F); go_simp; (first | (have tok := tok_b4; clear tok tok_b4; intro b4 w1 sh) | intro b w1 sh | intro w1 sh); have F := sh.facts; (try simp only [Hp.Facts, Hp.CellsAt, BatP.cellsAt_bt, Nat.reduceAdd, Hp.c1, Hp.c2] at F))
              | fail)
          go_fit (K0.out _ sh.data.1)
          rintro e w1 ⟨rfl, hb⟩
          replace sh := sh.call hb; clear hb; (try clear F); have F := sh.facts; (try simp only [Hp.Facts, Hp.CellsAt, BatP.cellsAt_bt, Nat.reduceAdd, Hp.c1, Hp.c2] at F)
          go_wp2_with (first
              | ((with_reducible first | refine Hp.wpl_box sh ?_ ?_ | refine Hp.wpl_alloc Tryd.z_ev sh ?_ ?_ | refine Hp.wpl_alloc Tryd.z_bt sh ?_ ?_ | refine Hp.wpl_alloc Tryd.z_dg sh ?_ ?_ | refine Hp.atl_store ?_ ?_); exact rfl; (try (apply Hp.wsA _ _ _ sh; exact rfl; (iterate 8 try first | exact Hp.az | apply Hp.aw); rfl; kernel_rfl)); clear sh; (try clear F); go_simp; (first | intro b w1 sh | intro w1 sh); have F := sh.facts; (try simp only [Hp.Facts, Hp.CellsAt, BatP.cellsAt_bt, Nat.reduceAdd, Hp.c1, Hp.c2] at F))
              | fail)
          go_fit (K1.out _ sh.data.2.1)
          rintro e w1 ⟨rfl, hb⟩
          replace sh := sh.call hb; clear hb; (try clear F); have F := sh.facts; (try simp only [Hp.Facts, Hp.CellsAt, BatP.cellsAt_bt, Nat.reduceAdd, Hp.c1, Hp.c2] at F)
          go_wp2_with (first
              | ((with_reducible refine Hp.at_ld 23 ?_); (first | refine Hp.bld_g 0 sh rfl rfl rfl (by kernel_rfl) (BatP.dg_size HAL.out) ?_ | refine Hp.bld_g 0 sh rfl rfl rfl (by kernel_rfl) (BatP.dg_size HDL.out) ?_ | refine Hp.bld_g 0 sh rfl rfl rfl (by kernel_rfl) (BatP.dg_size HEL.out) ?_ | refine Hp.bld_g 1 sh rfl rfl rfl (by kernel_rfl) (BatP.dg_size HAL.out) ?_ | refine Hp.bld_g 1 sh rfl rfl rfl (by kernel_rfl) (BatP.dg_size HDL.out) ?_ | refine Hp.bld_g 1 sh rfl rfl rfl (by kernel_rfl) (BatP.dg_size HEL.out) ?_ | refine Hp.bld_g 2 sh rfl rfl rfl (by kernel_rfl) (BatP.dg_size HAL.out) ?_ | refine Hp.bld_g 2 sh rfl rfl rfl (by kernel_rfl) (BatP.dg_size HDL.out) ?_ | refine Hp.bld_g 2 sh rfl rfl rfl (by kernel_rfl) (BatP.dg_size HEL.out) ?_); go_simp)
              | ((with_reducible first | refine Hp.wpl_box sh ?_ ?_ | refine Hp.wpl_alloc Tryd.z_ev sh ?_ ?_ | refine Hp.wpl_alloc Tryd.z_bt sh ?_ ?_ | refine Hp.wpl_alloc Tryd.z_dg sh ?_ ?_ | refine Hp.atl_store ?_ ?_); exact rfl; (try (apply Hp.wsA _ _ _ sh; exact rfl; (iterate 8 try first | exact Hp.az | apply Hp.aw); rfl; kernel_rfl)); clear sh; (try clear F); go_simp; (first | intro b w1 sh | intro w1 sh); have F := sh.facts; (try simp only [Hp.Facts, Hp.CellsAt, BatP.cellsAt_bt, Nat.reduceAdd, Hp.c1, Hp.c2] at F))
              | fail)
          go_fit (KP.out _ sh.data.1 sh.data.2.2)
          rintro e w1 ⟨s3, k3, rfl, hn9, hr9, hb9, -, -, -⟩
          replace sh := Hp.gain sh hb9 hn9 hr9
          clear hn9 hr9 hb9
          (try clear F); (have F := sh.facts; (try simp only [BatP.cellsAt_bt, Hp.Facts, Hp.CellsAt, BatP.cellsAt_bt, Nat.reduceAdd, Hp.c1, Hp.c2] at F))
          have tok_b10 : True := trivial
          go_wp2_with (first
              | ((with_reducible refine Hp.at_st 23 ?_ ?_); (rotate_left; exact rfl); (refine Hp.bst_arr 0 sh rfl rfl rfl HDG.out (by kernel_rfl) ?_); clear sh; (try clear F); go_simp; intro w1 sh; (have F := sh.facts; (try simp only [BatP.cellsAt_bt, Hp.Facts, Hp.CellsAt, BatP.cellsAt_bt, Nat.reduceAdd, Hp.c1, Hp.c2] at F)))
              | ((with_reducible refine Hp.at_ld 23 ?_); (first | refine Hp.bld_g 0 sh rfl rfl rfl (by kernel_rfl) (BatP.dg_size HAL.out) ?_ | refine Hp.bld_g 0 sh rfl rfl rfl (by kernel_rfl) (BatP.dg_size HDL.out) ?_ | refine Hp.bld_g 0 sh rfl rfl rfl (by kernel_rfl) (BatP.dg_size HEL.out) ?_ | refine Hp.bld_g 1 sh rfl rfl rfl (by kernel_rfl) (BatP.dg_size HAL.out) ?_ | refine Hp.bld_g 1 sh rfl rfl rfl (by kernel_rfl) (BatP.dg_size HDL.out) ?_ | refine Hp.bld_g 1 sh rfl rfl rfl (by kernel_rfl) (BatP.dg_size HEL.out) ?_ | refine Hp.bld_g 2 sh rfl rfl rfl (by kernel_rfl) (BatP.dg_size HAL.out) ?_ | refine Hp.bld_g 2 sh rfl rfl rfl (by kernel_rfl) (BatP.dg_size HDL.out) ?_ | refine Hp.bld_g 2 sh rfl rfl rfl (by kernel_rfl) (BatP.dg_size HEL.out) ?_); go_simp)
              | ((with_reducible first | refine Hp.wpl_box sh ?_ ?_ | refine Hp.wpl_alloc Tryd.z_ev sh ?_ ?_ | refine Hp.wpl_alloc Tryd.z_bt sh ?_ ?_ | refine Hp.wpl_alloc Tryd.z_dg sh ?_ ?_ | refine Hp.atl_store ?_ ?_); exact rfl; (try (apply Hp.wsA _ _ _ sh; exact rfl; (iterate 8 try first | exact Hp.az | apply Hp.aw); rfl; kernel_rfl)); clear sh; (try clear F); go_simp; (first | (have tok := tok_b10; clear tok tok_b10; intro b10 w1 sh) | intro b w1 sh | intro w1 sh); have F := sh.facts; (try simp only [Hp.Facts, Hp.CellsAt, BatP.cellsAt_bt, Nat.reduceAdd, Hp.c1, Hp.c2] at F))
              | fail)
          go_fit (KR.out _ sh.data.2.2.1 sh.data.2.2.2)
          rintro e w1 ⟨s4, k4, rfl, hn9, hr9, hb9, -, -, -⟩
          replace sh := Hp.gain sh hb9 hn9 hr9
          clear hn9 hr9 hb9
          (try clear F); (have F := sh.facts; (try simp only [BatP.cellsAt_bt, Hp.Facts, Hp.CellsAt, BatP.cellsAt_bt, Nat.reduceAdd, Hp.c1, Hp.c2] at F))
          have tok_b13 : True := trivial
          go_wp2_with (first
              | ((with_reducible refine Hp.at_st 23 ?_ ?_); (rotate_left; exact rfl); (refine Hp.bst_arr 0 sh rfl rfl rfl HEG.out (by kernel_rfl) ?_); clear sh; (try clear F); go_simp; intro w1 sh; (have F := sh.facts; (try simp only [BatP.cellsAt_bt, Hp.Facts, Hp.CellsAt, BatP.cellsAt_bt, Nat.reduceAdd, Hp.c1, Hp.c2] at F)))
              | ((with_reducible refine Hp.at_ld 23 ?_); (first | refine Hp.bld_g 0 sh rfl rfl rfl (by kernel_rfl) (BatP.dg_size HAL.out) ?_ | refine Hp.bld_g 0 sh rfl rfl rfl (by kernel_rfl) (BatP.dg_size HDL.out) ?_ | refine Hp.bld_g 0 sh rfl rfl rfl (by kernel_rfl) (BatP.dg_size HEL.out) ?_ | refine Hp.bld_g 1 sh rfl rfl rfl (by kernel_rfl) (BatP.dg_size HAL.out) ?_ | refine Hp.bld_g 1 sh rfl rfl rfl (by kernel_rfl) (BatP.dg_size HDL.out) ?_ | refine Hp.bld_g 1 sh rfl rfl rfl (by kernel_rfl) (BatP.dg_size HEL.out) ?_ | refine Hp.bld_g 2 sh rfl rfl rfl (by kernel_rfl) (BatP.dg_size HAL.out) ?_ | refine Hp.bld_g 2 sh rfl rfl rfl (by kernel_rfl) (BatP.dg_size HDL.out) ?_ | refine Hp.bld_g 2 sh rfl rfl rfl (by kernel_rfl) (BatP.dg_size HEL.out) ?_); go_simp)
              | ((with_reducible first | refine Hp.wpl_box sh ?_ ?_ | refine Hp.wpl_alloc Tryd.z_ev sh ?_ ?_ | refine Hp.wpl_alloc Tryd.z_bt sh ?_ ?_ | refine Hp.wpl_alloc Tryd.z_dg sh ?_ ?_ | refine Hp.atl_store ?_ ?_); exact rfl; (try (apply Hp.wsA _ _ _ sh; exact rfl; (iterate 8 try first | exact Hp.az | apply Hp.aw); rfl; kernel_rfl)); clear sh; (try clear F); go_simp; (first | (have tok := tok_b13; clear tok tok_b13; intro b13 w1 sh) | intro b w1 sh | intro w1 sh); have F := sh.facts; (try simp only [Hp.Facts, Hp.CellsAt, BatP.cellsAt_bt, Nat.reduceAdd, Hp.c1, Hp.c2] at F))
              | fail)
          go_fit (KL.out _ sh.data.2.2.2.2)
          rintro e w1 ⟨rfl, hb⟩
          replace sh := sh.call hb; clear hb; (try clear F); have F := sh.facts; (try simp only [Hp.Facts, Hp.CellsAt, BatP.cellsAt_bt, Nat.reduceAdd, Hp.c1, Hp.c2] at F)
          go_wp2_with (first
              | ((with_reducible first | refine Hp.wpl_box sh ?_ ?_ | refine Hp.wpl_alloc Tryd.z_ev sh ?_ ?_ | refine Hp.wpl_alloc Tryd.z_bt sh ?_ ?_ | refine Hp.wpl_alloc Tryd.z_dg sh ?_ ?_ | refine Hp.atl_store ?_ ?_); exact rfl; (try (apply Hp.wsA _ _ _ sh; exact rfl; (iterate 8 try first | exact Hp.az | apply Hp.aw); rfl; kernel_rfl)); clear sh; (try clear F); go_simp; (first | intro b w1 sh | intro w1 sh); have F := sh.facts; (try simp only [Hp.Facts, Hp.CellsAt, BatP.cellsAt_bt, Nat.reduceAdd, Hp.c1, Hp.c2] at F))
              | fail)
          go_ret
          exact ⟨by first | rfl | simp, sh.below⟩
      · have d1 : (er != 0) = true := by simpa using he
        clear hn hm hA hB ha a1 a2 b1 b2 hX hY h32 k32 htop ht hu he HD
        go_enter Tryd.func7, Tryd.ntmps7
        have F := sh.facts; (try simp only [Hp.Facts, Hp.CellsAt, BatP.cellsAt_bt, Nat.reduceAdd, Hp.c1, Hp.c2] at F)
        have tok_b4 : True := trivial
        go_wp2_with (first
            | ((with_reducible first | refine Hp.wpl_box sh ?_ ?_ | refine Hp.wpl_alloc Tryd.z_ev sh ?_ ?_ | refine Hp.wpl_alloc Tryd.z_bt sh ?_ ?_ | refine Hp.wpl_alloc Tryd.z_dg sh ?_ ?_ | refine Hp.atl_store ?_ ?_); exact rfl; (try (apply Hp.wsA _ _ _ sh; exact rfl; (iterate 8 try first | exact Hp.az | apply Hp.aw); rfl; kernel_rfl)); clear sh; (try clear F); go_simp; (first | (have tok := tok_b4; clear tok tok_b4; intro b4 w1 sh) | intro b w1 sh | intro w1 sh); have F := sh.facts; (try simp only [Hp.Facts, Hp.CellsAt, BatP.cellsAt_bt, Nat.reduceAdd, Hp.c1, Hp.c2] at F))
            | fail)
        go_fit (K0.out _ sh.data.1)
        rintro e w1 ⟨rfl, hb⟩
        replace sh := sh.call hb; clear hb; (try clear F); have F := sh.facts; (try simp only [Hp.Facts, Hp.CellsAt, BatP.cellsAt_bt, Nat.reduceAdd, Hp.c1, Hp.c2] at F)
        go_wp2_with (first
            | ((with_reducible first | refine Hp.wpl_box sh ?_ ?_ | refine Hp.wpl_alloc Tryd.z_ev sh ?_ ?_ | refine Hp.wpl_alloc Tryd.z_bt sh ?_ ?_ | refine Hp.wpl_alloc Tryd.z_dg sh ?_ ?_ | refine Hp.atl_store ?_ ?_); exact rfl; (try (apply Hp.wsA _ _ _ sh; exact rfl; (iterate 8 try first | exact Hp.az | apply Hp.aw); rfl; kernel_rfl)); clear sh; (try clear F); go_simp; (first | intro b w1 sh | intro w1 sh); have F := sh.facts; (try simp only [Hp.Facts, Hp.CellsAt, BatP.cellsAt_bt, Nat.reduceAdd, Hp.c1, Hp.c2] at F))
            | fail)
        go_fit (K1.out _ sh.data.2.1)
        rintro e w1 ⟨rfl, hb⟩
        replace sh := sh.call hb; clear hb; (try clear F); have F := sh.facts; (try simp only [Hp.Facts, Hp.CellsAt, BatP.cellsAt_bt, Nat.reduceAdd, Hp.c1, Hp.c2] at F)
        go_wp2_with (first
            | ((with_reducible refine Hp.at_ld 23 ?_); (first | refine Hp.bld_g 0 sh rfl rfl rfl (by kernel_rfl) (BatP.dg_size HAL.out) ?_ | refine Hp.bld_g 0 sh rfl rfl rfl (by kernel_rfl) (BatP.dg_size HDL.out) ?_ | refine Hp.bld_g 0 sh rfl rfl rfl (by kernel_rfl) (BatP.dg_size HEL.out) ?_ | refine Hp.bld_g 1 sh rfl rfl rfl (by kernel_rfl) (BatP.dg_size HAL.out) ?_ | refine Hp.bld_g 1 sh rfl rfl rfl (by kernel_rfl) (BatP.dg_size HDL.out) ?_ | refine Hp.bld_g 1 sh rfl rfl rfl (by kernel_rfl) (BatP.dg_size HEL.out) ?_ | refine Hp.bld_g 2 sh rfl rfl rfl (by kernel_rfl) (BatP.dg_size HAL.out) ?_ | refine Hp.bld_g 2 sh rfl rfl rfl (by kernel_rfl) (BatP.dg_size HDL.out) ?_ | refine Hp.bld_g 2 sh rfl rfl rfl (by kernel_rfl) (BatP.dg_size HEL.out) ?_); go_simp)
            | ((with_reducible first | refine Hp.wpl_box sh ?_ ?_ | refine Hp.wpl_alloc Tryd.z_ev sh ?_ ?_ | refine Hp.wpl_alloc Tryd.z_bt sh ?_ ?_ | refine Hp.wpl_alloc Tryd.z_dg sh ?_ ?_ | refine Hp.atl_store ?_ ?_); exact rfl; (try (apply Hp.wsA _ _ _ sh; exact rfl; (iterate 8 try first | exact Hp.az | apply Hp.aw); rfl; kernel_rfl)); clear sh; (try clear F); go_simp; (first | intro b w1 sh | intro w1 sh); have F := sh.facts; (try simp only [Hp.Facts, Hp.CellsAt, BatP.cellsAt_bt, Nat.reduceAdd, Hp.c1, Hp.c2] at F))
            | fail)
        go_fit (KP.out _ sh.data.1 sh.data.2.2)
        rintro e w1 ⟨s3, k3, rfl, hn9, hr9, hb9, -, -, -⟩
        replace sh := Hp.gain sh hb9 hn9 hr9
        clear hn9 hr9 hb9
        (try clear F); (have F := sh.facts; (try simp only [BatP.cellsAt_bt, Hp.Facts, Hp.CellsAt, BatP.cellsAt_bt, Nat.reduceAdd, Hp.c1, Hp.c2] at F))
        have tok_b10 : True := trivial
        go_wp2_with (first
            | ((with_reducible refine Hp.at_st 23 ?_ ?_); (rotate_left; exact rfl); (refine Hp.bst_arr 0 sh rfl rfl rfl HDG.out (by kernel_rfl) ?_); clear sh; (try clear F); go_simp; intro w1 sh; (have F := sh.facts; (try simp only [BatP.cellsAt_bt, Hp.Facts, Hp.CellsAt, BatP.cellsAt_bt, Nat.reduceAdd, Hp.c1, Hp.c2] at F)))
            | ((with_reducible refine Hp.at_ld 23 ?_); (first | refine Hp.bld_g 0 sh rfl rfl rfl (by kernel_rfl) (BatP.dg_size HAL.out) ?_ | refine Hp.bld_g 0 sh rfl rfl rfl (by kernel_rfl) (BatP.dg_size HDL.out) ?_ | refine Hp.bld_g 0 sh rfl rfl rfl (by kernel_rfl) (BatP.dg_size HEL.out) ?_ | refine Hp.bld_g 1 sh rfl rfl rfl (by kernel_rfl) (BatP.dg_size HAL.out) ?_ | refine Hp.bld_g 1 sh rfl rfl rfl (by kernel_rfl) (BatP.dg_size HDL.out) ?_ | refine Hp.bld_g 1 sh rfl rfl rfl (by kernel_rfl) (BatP.dg_size HEL.out) ?_ | refine Hp.bld_g 2 sh rfl rfl rfl (by kernel_rfl) (BatP.dg_size HAL.out) ?_ | refine Hp.bld_g 2 sh rfl rfl rfl (by kernel_rfl) (BatP.dg_size HDL.out) ?_ | refine Hp.bld_g 2 sh rfl rfl rfl (by kernel_rfl) (BatP.dg_size HEL.out) ?_); go_simp)
            | ((with_reducible first | refine Hp.wpl_box sh ?_ ?_ | refine Hp.wpl_alloc Tryd.z_ev sh ?_ ?_ | refine Hp.wpl_alloc Tryd.z_bt sh ?_ ?_ | refine Hp.wpl_alloc Tryd.z_dg sh ?_ ?_ | refine Hp.atl_store ?_ ?_); exact rfl; (try (apply Hp.wsA _ _ _ sh; exact rfl; (iterate 8 try first | exact Hp.az | apply Hp.aw); rfl; kernel_rfl)); clear sh; (try clear F); go_simp; (first | (have tok := tok_b10; clear tok tok_b10; intro b10 w1 sh) | intro b w1 sh | intro w1 sh); have F := sh.facts; (try simp only [Hp.Facts, Hp.CellsAt, BatP.cellsAt_bt, Nat.reduceAdd, Hp.c1, Hp.c2] at F))
            | fail)
        go_fit (KR.out _ sh.data.2.2.1 sh.data.2.2.2)
        rintro e w1 ⟨s4, k4, rfl, hn9, hr9, hb9, -, -, -⟩
        replace sh := Hp.gain sh hb9 hn9 hr9
        clear hn9 hr9 hb9
        (try clear F); (have F := sh.facts; (try simp only [BatP.cellsAt_bt, Hp.Facts, Hp.CellsAt, BatP.cellsAt_bt, Nat.reduceAdd, Hp.c1, Hp.c2] at F))
        have tok_b13 : True := trivial
        go_wp2_with (first
            | ((with_reducible refine Hp.at_st 23 ?_ ?_); (rotate_left; exact rfl); (refine Hp.bst_arr 0 sh rfl rfl rfl HEG.out (by kernel_rfl) ?_); clear sh; (try clear F); go_simp; intro w1 sh; (have F := sh.facts; (try simp only [BatP.cellsAt_bt, Hp.Facts, Hp.CellsAt, BatP.cellsAt_bt, Nat.reduceAdd, Hp.c1, Hp.c2] at F)))
            | ((with_reducible refine Hp.at_ld 23 ?_); (first | refine Hp.bld_g 0 sh rfl rfl rfl (by kernel_rfl) (BatP.dg_size HAL.out) ?_ | refine Hp.bld_g 0 sh rfl rfl rfl (by kernel_rfl) (BatP.dg_size HDL.out) ?_ | refine Hp.bld_g 0 sh rfl rfl rfl (by kernel_rfl) (BatP.dg_size HEL.out) ?_ | refine Hp.bld_g 1 sh rfl rfl rfl (by kernel_rfl) (BatP.dg_size HAL.out) ?_ | refine Hp.bld_g 1 sh rfl rfl rfl (by kernel_rfl) (BatP.dg_size HDL.out) ?_ | refine Hp.bld_g 1 sh rfl rfl rfl (by kernel_rfl) (BatP.dg_size HEL.out) ?_ | refine Hp.bld_g 2 sh rfl rfl rfl (by kernel_rfl) (BatP.dg_size HAL.out) ?_ | refine Hp.bld_g 2 sh rfl rfl rfl (by kernel_rfl) (BatP.dg_size HDL.out) ?_ | refine Hp.bld_g 2 sh rfl rfl rfl (by kernel_rfl) (BatP.dg_size HEL.out) ?_); go_simp)
            | ((with_reducible first | refine Hp.wpl_box sh ?_ ?_ | refine Hp.wpl_alloc Tryd.z_ev sh ?_ ?_ | refine Hp.wpl_alloc Tryd.z_bt sh ?_ ?_ | refine Hp.wpl_alloc Tryd.z_dg sh ?_ ?_ | refine Hp.atl_store ?_ ?_); exact rfl; (try (apply Hp.wsA _ _ _ sh; exact rfl; (iterate 8 try first | exact Hp.az | apply Hp.aw); rfl; kernel_rfl)); clear sh; (try clear F); go_simp; (first | (have tok := tok_b13; clear tok tok_b13; intro b13 w1 sh) | intro b w1 sh | intro w1 sh); have F := sh.facts; (try simp only [Hp.Facts, Hp.CellsAt, BatP.cellsAt_bt, Nat.reduceAdd, Hp.c1, Hp.c2] at F))
            | fail)
        go_fit (KL.out _ sh.data.2.2.2.2)
        rintro e w1 ⟨rfl, hb⟩
        replace sh := sh.call hb; clear hb; (try clear F); have F := sh.facts; (try simp only [Hp.Facts, Hp.CellsAt, BatP.cellsAt_bt, Nat.reduceAdd, Hp.c1, Hp.c2] at F)
        go_wp2_with (first
            | ((with_reducible first | refine Hp.wpl_box sh ?_ ?_ | refine Hp.wpl_alloc Tryd.z_ev sh ?_ ?_ | refine Hp.wpl_alloc Tryd.z_bt sh ?_ ?_ | refine Hp.wpl_alloc Tryd.z_dg sh ?_ ?_ | refine Hp.atl_store ?_ ?_); exact rfl; (try (apply Hp.wsA _ _ _ sh; exact rfl; (iterate 8 try first | exact Hp.az | apply Hp.aw); rfl; kernel_rfl)); clear sh; (try clear F); go_simp; (first | intro b w1 sh | intro w1 sh); have F := sh.facts; (try simp only [Hp.Facts, Hp.CellsAt, BatP.cellsAt_bt, Nat.reduceAdd, Hp.c1, Hp.c2] at F))
            | fail)
        go_ret
        exact ⟨by first | rfl | simp, sh.below⟩
end Go.Proofs.YtfcffglgkblidaaDoor
