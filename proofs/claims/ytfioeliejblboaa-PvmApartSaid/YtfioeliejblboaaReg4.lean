
/-
  The walks of the reference's memory: of, Get, Set.
-/
import Derived.Test.YtfioeliejblboaaReg3
namespace Go.Proofs.Ytfioeliejblboaa
open Go.RowKit
set_option linter.unusedVariables false
set_option linter.unusedSimpArgs false

set_option maxHeartbeats 4000000 in set_option maxRecDepth 100000 in
theorem rrof (bm g n : Nat) (b z r : Int) (ks : Option Addr) (kn kc : Nat) (f ag : Int) (w : World) (hn : n ≤ 1099511627776) (hb : -9223372036854775808 ≤ b ∧ b ≤ 9223372036854775807) (hz : -9223372036854775808 ≤ z ∧ z ≤ 9223372036854775807) (hM : RegP.MemIs bm g n w) :
    Calls Try.prog 44 #[.pointer (some ⟨bm, 0, none⟩), .agg #[.int .i64 b, .int .i64 z, .int .i64 r, .slice ks kn kc, .int .i64 f, .int .i64 ag]] w fun e w' => e = .returned (.bool (RegP.oc n b z)) ∧ Below w.heap.size w w' := by
  have sh := Hp.Sh.start hM.rob
  clear hM
  by_cases h1 : 0 ≤ b
  · have d1 : decide (0 ≤ b) = true := decide_eq_true h1
    by_cases h2 : 1 ≤ z
    · have d2 : decide (1 ≤ z) = true := decide_eq_true h2
      by_cases h3 : b ≤ (n : Int)
      · have d3 : decide (b ≤ (n : Int)) = true := decide_eq_true h3
        have hw : IntKind.i64.wrap ((n : Int) - b) = (n : Int) - b := IntWalk.i64_in _ (by omega)
        by_cases h4 : z ≤ (n : Int) - b
        · have d4 : decide (z ≤ (n : Int) - b) = true := decide_eq_true h4
          rw [show RegP.oc n b z = true from decide_eq_true ⟨h1, h2, h4⟩]
          go_enter Try.func44, Try.ntmps44
          have tok_bp : True := trivial
          go_wp2_with (first
              | ((have tok := tok_bp); clear tok tok_bp; (first | (with_reducible refine Hp.wpl_box sh ?_ ?_)); exact rfl; clear sh; (try clear F); go_simp; intro bp w1 sh; have F := sh.facts; (try simp only [Hp.Facts, Hp.CellsAt, Nat.reduceAdd, List.cons_append, List.nil_append] at F))
              | ((with_reducible refine Hp.wpl_box sh ?_ ?_); exact rfl; clear sh; (try clear F); go_simp; intro b w1 sh; have F := sh.facts; (try simp only [Hp.Facts, Hp.CellsAt, Nat.reduceAdd, List.cons_append, List.nil_append] at F))
              | ((with_reducible refine Hp.atl_store ?_ ?_); exact rfl; (first | refine Hp.wp_store 0 sh rfl rfl rfl rfl (by kernel_rfl) (Nat.le_of_ble_eq_true rfl) rfl ?_ | refine Hp.wp_store 1 sh rfl rfl rfl rfl (by kernel_rfl) (Nat.le_of_ble_eq_true rfl) rfl ?_ | refine Hp.wp_store 2 sh rfl rfl rfl rfl (by kernel_rfl) (Nat.le_of_ble_eq_true rfl) rfl ?_ | refine Hp.wp_store 3 sh rfl rfl rfl rfl (by kernel_rfl) (Nat.le_of_ble_eq_true rfl) rfl ?_ | refine Hp.wp_store 4 sh rfl rfl rfl rfl (by kernel_rfl) (Nat.le_of_ble_eq_true rfl) rfl ?_ | refine Hp.wp_store 5 sh rfl rfl rfl rfl (by kernel_rfl) (Nat.le_of_ble_eq_true rfl) rfl ?_ | refine Hp.wp_store 6 sh rfl rfl rfl rfl (by kernel_rfl) (Nat.le_of_ble_eq_true rfl) rfl ?_); clear sh; (try clear F); go_simp; intro w1 sh; have F := sh.facts; (try simp only [Hp.Facts, Hp.CellsAt, Nat.reduceAdd, List.cons_append, List.nil_append] at F))
              | fail)
          refine wp_region_quiet (C := Hp.Cls _ _ _) (by kernel_rfl) (by kernel_rfl) sh.drew ?_; clear sh; (try clear F)
          (try simp only [])
          (first | go_big_quiet_skip | (go_big_quiet_want; go_big_quiet_op; first | go_big_quiet_on | (refine ⟨_, fun _ _ => rfl, ?_⟩; go_big_quiet_on)))
          (first | go_big_quiet_skip | (go_big_quiet_want; refine Hp.quiet_val _ (fun W hW => by have F := Hp.Sh.facts hW; have hd := Hp.Sh.data hW; (try simp only [Hp.Facts, Hp.CellsAt, Nat.reduceAdd, List.cons_append, List.nil_append] at F); have hm := RegP.MemIs.cell hd; go_simp; rfl) ?_; (try simp only [Act.put, List.setIfInBounds_toArray, List.set_cons_zero, List.set_cons_succ]); go_big_quiet_on) | (go_big_quiet_want; refine Hp.quiet_val _ (fun W hW => by have F := Hp.Sh.facts hW; have hd := Hp.Sh.data hW; (try simp only [Hp.Facts, Hp.CellsAt, Nat.reduceAdd, List.cons_append, List.nil_append] at F); have hm := RegP.MemIs.cell hd; go_simp) ?_; (try simp only [Act.put, List.setIfInBounds_toArray, List.set_cons_zero, List.set_cons_succ]); go_big_quiet_on))
          (first | go_big_quiet_skip | (go_big_quiet_want; go_big_quiet_op; first | go_big_quiet_on | (refine ⟨_, fun _ _ => rfl, ?_⟩; go_big_quiet_on)))
          (first | go_big_quiet_skip | (go_big_quiet_want; go_big_quiet_op; first | go_big_quiet_on | (refine ⟨_, fun _ _ => rfl, ?_⟩; go_big_quiet_on)))
          (first | go_big_quiet_skip | (go_big_quiet_want; go_big_quiet_op; first | go_big_quiet_on | (refine ⟨_, fun _ _ => rfl, ?_⟩; go_big_quiet_on)))
          (first | go_big_quiet_skip | (go_big_quiet_want; refine Hp.quiet_val _ (fun W hW => by have F := Hp.Sh.facts hW; have hd := Hp.Sh.data hW; (try simp only [Hp.Facts, Hp.CellsAt, Nat.reduceAdd, List.cons_append, List.nil_append] at F); have hm := RegP.MemIs.cell hd; go_simp; rfl) ?_; (try simp only [Act.put, List.setIfInBounds_toArray, List.set_cons_zero, List.set_cons_succ]); go_big_quiet_on) | (go_big_quiet_want; refine Hp.quiet_val _ (fun W hW => by have F := Hp.Sh.facts hW; have hd := Hp.Sh.data hW; (try simp only [Hp.Facts, Hp.CellsAt, Nat.reduceAdd, List.cons_append, List.nil_append] at F); have hm := RegP.MemIs.cell hd; go_simp) ?_; (try simp only [Act.put, List.setIfInBounds_toArray, List.set_cons_zero, List.set_cons_succ]); go_big_quiet_on))
          (first | go_big_quiet_skip | (go_big_quiet_want; go_big_quiet_op; first | go_big_quiet_on | (refine ⟨_, fun _ _ => rfl, ?_⟩; go_big_quiet_on)))
          (first | go_big_quiet_skip | (go_big_quiet_want; go_big_quiet_op; first | go_big_quiet_on | (refine ⟨_, fun _ _ => rfl, ?_⟩; go_big_quiet_on)))
          (first | go_big_quiet_skip | (go_big_quiet_want; go_big_quiet_op; first | go_big_quiet_on | (refine ⟨_, fun _ _ => rfl, ?_⟩; go_big_quiet_on)))
          (first | go_big_quiet_skip | (go_big_quiet_want; go_big_quiet_op; first | go_big_quiet_on | (refine ⟨_, fun _ _ => rfl, ?_⟩; go_big_quiet_on)))
          (first | go_big_quiet_skip | (go_big_quiet_want; refine Hp.quiet_val _ (fun W hW => by have F := Hp.Sh.facts hW; have hd := Hp.Sh.data hW; (try simp only [Hp.Facts, Hp.CellsAt, Nat.reduceAdd, List.cons_append, List.nil_append] at F); have hm := RegP.MemIs.cell hd; go_simp; rfl) ?_; (try simp only [Act.put, List.setIfInBounds_toArray, List.set_cons_zero, List.set_cons_succ]); go_big_quiet_on) | (go_big_quiet_want; refine Hp.quiet_val _ (fun W hW => by have F := Hp.Sh.facts hW; have hd := Hp.Sh.data hW; (try simp only [Hp.Facts, Hp.CellsAt, Nat.reduceAdd, List.cons_append, List.nil_append] at F); have hm := RegP.MemIs.cell hd; go_simp) ?_; (try simp only [Act.put, List.setIfInBounds_toArray, List.set_cons_zero, List.set_cons_succ]); go_big_quiet_on))
          (first | go_big_quiet_skip | (go_big_quiet_want; go_big_quiet_op; first | go_big_quiet_on | (refine ⟨_, fun _ _ => rfl, ?_⟩; go_big_quiet_on)))
          (first | go_big_quiet_skip | (go_big_quiet_want; go_big_quiet_op; first | go_big_quiet_on | (refine ⟨_, fun _ _ => rfl, ?_⟩; go_big_quiet_on)))
          (first | go_big_quiet_skip | (go_big_quiet_want; go_big_quiet_op; first | go_big_quiet_on | (refine ⟨_, fun _ _ => rfl, ?_⟩; go_big_quiet_on)))
          (first | go_big_quiet_skip | (go_big_quiet_want; refine Hp.quiet_val _ (fun W hW => by have F := Hp.Sh.facts hW; have hd := Hp.Sh.data hW; (try simp only [Hp.Facts, Hp.CellsAt, Nat.reduceAdd, List.cons_append, List.nil_append] at F); have hm := RegP.MemIs.cell hd; go_simp; rfl) ?_; (try simp only [Act.put, List.setIfInBounds_toArray, List.set_cons_zero, List.set_cons_succ]); go_big_quiet_on) | (go_big_quiet_want; refine Hp.quiet_val _ (fun W hW => by have F := Hp.Sh.facts hW; have hd := Hp.Sh.data hW; (try simp only [Hp.Facts, Hp.CellsAt, Nat.reduceAdd, List.cons_append, List.nil_append] at F); have hm := RegP.MemIs.cell hd; go_simp) ?_; (try simp only [Act.put, List.setIfInBounds_toArray, List.set_cons_zero, List.set_cons_succ]); go_big_quiet_on))
          (first | go_big_quiet_skip | (go_big_quiet_want; go_big_quiet_op; first | go_big_quiet_on | (refine ⟨_, fun _ _ => rfl, ?_⟩; go_big_quiet_on)))
          (first | go_big_quiet_skip | (go_big_quiet_want; go_big_quiet_op; first | go_big_quiet_on | (refine ⟨_, fun _ _ => rfl, ?_⟩; go_big_quiet_on)))
          (first | go_big_quiet_skip | (go_big_quiet_want; go_big_quiet_op; first | go_big_quiet_on | (refine ⟨_, fun _ _ => rfl, ?_⟩; go_big_quiet_on)))
          (first | go_big_quiet_skip | (go_big_quiet_want; go_big_quiet_op; first | go_big_quiet_on | (refine ⟨_, fun _ _ => rfl, ?_⟩; go_big_quiet_on)))
          (first | go_big_quiet_skip | (go_big_quiet_want; go_big_quiet_op; first | go_big_quiet_on | (refine ⟨_, fun _ _ => rfl, ?_⟩; go_big_quiet_on)))
          (first | go_big_quiet_skip | (go_big_quiet_want; refine Hp.quiet_val _ (fun W hW => by have F := Hp.Sh.facts hW; have hd := Hp.Sh.data hW; (try simp only [Hp.Facts, Hp.CellsAt, Nat.reduceAdd, List.cons_append, List.nil_append] at F); have hm := RegP.MemIs.cell hd; go_simp; rfl) ?_; (try simp only [Act.put, List.setIfInBounds_toArray, List.set_cons_zero, List.set_cons_succ]); go_big_quiet_on) | (go_big_quiet_want; refine Hp.quiet_val _ (fun W hW => by have F := Hp.Sh.facts hW; have hd := Hp.Sh.data hW; (try simp only [Hp.Facts, Hp.CellsAt, Nat.reduceAdd, List.cons_append, List.nil_append] at F); have hm := RegP.MemIs.cell hd; go_simp) ?_; (try simp only [Act.put, List.setIfInBounds_toArray, List.set_cons_zero, List.set_cons_succ]); go_big_quiet_on))
          (first | go_big_quiet_skip | (go_big_quiet_want; go_big_quiet_op; first | go_big_quiet_on | (refine ⟨_, fun _ _ => rfl, ?_⟩; go_big_quiet_on)))
          (first | go_big_quiet_skip | (go_big_quiet_want; go_big_quiet_op; first | go_big_quiet_on | (refine ⟨_, fun _ _ => rfl, ?_⟩; go_big_quiet_on)))
          (first | go_big_quiet_skip | (go_big_quiet_want; go_big_quiet_op; first | go_big_quiet_on | (refine ⟨_, fun _ _ => rfl, ?_⟩; go_big_quiet_on)))
          (first | go_big_quiet_skip | (go_big_quiet_want; refine Hp.quiet_val _ (fun W hW => by have F := Hp.Sh.facts hW; have hd := Hp.Sh.data hW; (try simp only [Hp.Facts, Hp.CellsAt, Nat.reduceAdd, List.cons_append, List.nil_append] at F); have hm := RegP.MemIs.cell hd; go_simp; rfl) ?_; (try simp only [Act.put, List.setIfInBounds_toArray, List.set_cons_zero, List.set_cons_succ]); go_big_quiet_on) | (go_big_quiet_want; refine Hp.quiet_val _ (fun W hW => by have F := Hp.Sh.facts hW; have hd := Hp.Sh.data hW; (try simp only [Hp.Facts, Hp.CellsAt, Nat.reduceAdd, List.cons_append, List.nil_append] at F); have hm := RegP.MemIs.cell hd; go_simp) ?_; (try simp only [Act.put, List.setIfInBounds_toArray, List.set_cons_zero, List.set_cons_succ]); go_big_quiet_on))
          (first | go_big_quiet_skip | (go_big_quiet_want; go_big_quiet_op; first | go_big_quiet_on | (refine ⟨_, fun _ _ => rfl, ?_⟩; go_big_quiet_on)))
          (first | go_big_quiet_skip | (go_big_quiet_want; go_big_quiet_op; first | go_big_quiet_on | (refine ⟨_, fun _ _ => rfl, ?_⟩; go_big_quiet_on)))
          (first | go_big_quiet_skip | (go_big_quiet_want; refine Hp.quiet_val _ (fun W hW => by have F := Hp.Sh.facts hW; have hd := Hp.Sh.data hW; (try simp only [Hp.Facts, Hp.CellsAt, Nat.reduceAdd, List.cons_append, List.nil_append] at F); have hm := RegP.MemIs.cell hd; go_simp; rfl) ?_; (try simp only [Act.put, List.setIfInBounds_toArray, List.set_cons_zero, List.set_cons_succ]); go_big_quiet_on) | (go_big_quiet_want; refine Hp.quiet_val _ (fun W hW => by have F := Hp.Sh.facts hW; have hd := Hp.Sh.data hW; (try simp only [Hp.Facts, Hp.CellsAt, Nat.reduceAdd, List.cons_append, List.nil_append] at F); have hm := RegP.MemIs.cell hd; go_simp) ?_; (try simp only [Act.put, List.setIfInBounds_toArray, List.set_cons_zero, List.set_cons_succ]); go_big_quiet_on))
          (first | go_big_quiet_skip | (go_big_quiet_want; go_big_quiet_op; first | go_big_quiet_on | (refine ⟨_, fun _ _ => rfl, ?_⟩; go_big_quiet_on)))
          (first | go_big_quiet_skip | (go_big_quiet_want; go_big_quiet_op; first | go_big_quiet_on | (refine ⟨_, fun _ _ => rfl, ?_⟩; go_big_quiet_on)))
          (first | go_big_quiet_skip | (go_big_quiet_want; go_big_quiet_op; first | go_big_quiet_on | (refine ⟨_, fun _ _ => rfl, ?_⟩; go_big_quiet_on)))
          (first | go_big_quiet_skip | (go_big_quiet_want; go_big_quiet_op; first | go_big_quiet_on | (refine ⟨_, fun _ _ => rfl, ?_⟩; go_big_quiet_on)))
          refine wpQuiet_nil ?_; intro w1 sh; have F := sh.facts; (try simp only [Hp.Facts, Hp.CellsAt, Nat.reduceAdd, List.cons_append, List.nil_append] at F)
          go_wp2_with (first
              | ((with_reducible refine Hp.wpl_box sh ?_ ?_); exact rfl; clear sh; (try clear F); go_simp; intro b w1 sh; have F := sh.facts; (try simp only [Hp.Facts, Hp.CellsAt, Nat.reduceAdd, List.cons_append, List.nil_append] at F))
              | ((with_reducible refine Hp.atl_store ?_ ?_); exact rfl; (first | refine Hp.wp_store 0 sh rfl rfl rfl rfl (by kernel_rfl) (Nat.le_of_ble_eq_true rfl) rfl ?_ | refine Hp.wp_store 1 sh rfl rfl rfl rfl (by kernel_rfl) (Nat.le_of_ble_eq_true rfl) rfl ?_ | refine Hp.wp_store 2 sh rfl rfl rfl rfl (by kernel_rfl) (Nat.le_of_ble_eq_true rfl) rfl ?_ | refine Hp.wp_store 3 sh rfl rfl rfl rfl (by kernel_rfl) (Nat.le_of_ble_eq_true rfl) rfl ?_ | refine Hp.wp_store 4 sh rfl rfl rfl rfl (by kernel_rfl) (Nat.le_of_ble_eq_true rfl) rfl ?_ | refine Hp.wp_store 5 sh rfl rfl rfl rfl (by kernel_rfl) (Nat.le_of_ble_eq_true rfl) rfl ?_ | refine Hp.wp_store 6 sh rfl rfl rfl rfl (by kernel_rfl) (Nat.le_of_ble_eq_true rfl) rfl ?_); clear sh; (try clear F); go_simp; intro w1 sh; have F := sh.facts; (try simp only [Hp.Facts, Hp.CellsAt, Nat.reduceAdd, List.cons_append, List.nil_append] at F))
              | fail)
          go_ret
          exact ⟨rfl, sh.below⟩
        · have d4 : decide (z ≤ (n : Int) - b) = false := decide_eq_false h4
          rw [show RegP.oc n b z = false from decide_eq_false (fun h => h4 h.2.2)]
          go_enter Try.func44, Try.ntmps44
          have tok_bp : True := trivial
          go_wp2_with (first
              | ((have tok := tok_bp); clear tok tok_bp; (first | (with_reducible refine Hp.wpl_box sh ?_ ?_)); exact rfl; clear sh; (try clear F); go_simp; intro bp w1 sh; have F := sh.facts; (try simp only [Hp.Facts, Hp.CellsAt, Nat.reduceAdd, List.cons_append, List.nil_append] at F))
              | ((with_reducible refine Hp.wpl_box sh ?_ ?_); exact rfl; clear sh; (try clear F); go_simp; intro b w1 sh; have F := sh.facts; (try simp only [Hp.Facts, Hp.CellsAt, Nat.reduceAdd, List.cons_append, List.nil_append] at F))
              | ((with_reducible refine Hp.atl_store ?_ ?_); exact rfl; (first | refine Hp.wp_store 0 sh rfl rfl rfl rfl (by kernel_rfl) (Nat.le_of_ble_eq_true rfl) rfl ?_ | refine Hp.wp_store 1 sh rfl rfl rfl rfl (by kernel_rfl) (Nat.le_of_ble_eq_true rfl) rfl ?_ | refine Hp.wp_store 2 sh rfl rfl rfl rfl (by kernel_rfl) (Nat.le_of_ble_eq_true rfl) rfl ?_ | refine Hp.wp_store 3 sh rfl rfl rfl rfl (by kernel_rfl) (Nat.le_of_ble_eq_true rfl) rfl ?_ | refine Hp.wp_store 4 sh rfl rfl rfl rfl (by kernel_rfl) (Nat.le_of_ble_eq_true rfl) rfl ?_ | refine Hp.wp_store 5 sh rfl rfl rfl rfl (by kernel_rfl) (Nat.le_of_ble_eq_true rfl) rfl ?_ | refine Hp.wp_store 6 sh rfl rfl rfl rfl (by kernel_rfl) (Nat.le_of_ble_eq_true rfl) rfl ?_); clear sh; (try clear F); go_simp; intro w1 sh; have F := sh.facts; (try simp only [Hp.Facts, Hp.CellsAt, Nat.reduceAdd, List.cons_append, List.nil_append] at F))
              | fail)
          refine wp_region_quiet (C := Hp.Cls _ _ _) (by kernel_rfl) (by kernel_rfl) sh.drew ?_; clear sh; (try clear F)
          (try simp only [])
          (first | go_big_quiet_skip | (go_big_quiet_want; go_big_quiet_op; first | go_big_quiet_on | (refine ⟨_, fun _ _ => rfl, ?_⟩; go_big_quiet_on)))
          (first | go_big_quiet_skip | (go_big_quiet_want; refine Hp.quiet_val _ (fun W hW => by have F := Hp.Sh.facts hW; have hd := Hp.Sh.data hW; (try simp only [Hp.Facts, Hp.CellsAt, Nat.reduceAdd, List.cons_append, List.nil_append] at F); have hm := RegP.MemIs.cell hd; go_simp; rfl) ?_; (try simp only [Act.put, List.setIfInBounds_toArray, List.set_cons_zero, List.set_cons_succ]); go_big_quiet_on) | (go_big_quiet_want; refine Hp.quiet_val _ (fun W hW => by have F := Hp.Sh.facts hW; have hd := Hp.Sh.data hW; (try simp only [Hp.Facts, Hp.CellsAt, Nat.reduceAdd, List.cons_append, List.nil_append] at F); have hm := RegP.MemIs.cell hd; go_simp) ?_; (try simp only [Act.put, List.setIfInBounds_toArray, List.set_cons_zero, List.set_cons_succ]); go_big_quiet_on))
          (first | go_big_quiet_skip | (go_big_quiet_want; go_big_quiet_op; first | go_big_quiet_on | (refine ⟨_, fun _ _ => rfl, ?_⟩; go_big_quiet_on)))
          (first | go_big_quiet_skip | (go_big_quiet_want; go_big_quiet_op; first | go_big_quiet_on | (refine ⟨_, fun _ _ => rfl, ?_⟩; go_big_quiet_on)))
          (first | go_big_quiet_skip | (go_big_quiet_want; go_big_quiet_op; first | go_big_quiet_on | (refine ⟨_, fun _ _ => rfl, ?_⟩; go_big_quiet_on)))
          (first | go_big_quiet_skip | (go_big_quiet_want; refine Hp.quiet_val _ (fun W hW => by have F := Hp.Sh.facts hW; have hd := Hp.Sh.data hW; (try simp only [Hp.Facts, Hp.CellsAt, Nat.reduceAdd, List.cons_append, List.nil_append] at F); have hm := RegP.MemIs.cell hd; go_simp; rfl) ?_; (try simp only [Act.put, List.setIfInBounds_toArray, List.set_cons_zero, List.set_cons_succ]); go_big_quiet_on) | (go_big_quiet_want; refine Hp.quiet_val _ (fun W hW => by have F := Hp.Sh.facts hW; have hd := Hp.Sh.data hW; (try simp only [Hp.Facts, Hp.CellsAt, Nat.reduceAdd, List.cons_append, List.nil_append] at F); have hm := RegP.MemIs.cell hd; go_simp) ?_; (try simp only [Act.put, List.setIfInBounds_toArray, List.set_cons_zero, List.set_cons_succ]); go_big_quiet_on))
          (first | go_big_quiet_skip | (go_big_quiet_want; go_big_quiet_op; first | go_big_quiet_on | (refine ⟨_, fun _ _ => rfl, ?_⟩; go_big_quiet_on)))
          (first | go_big_quiet_skip | (go_big_quiet_want; go_big_quiet_op; first | go_big_quiet_on | (refine ⟨_, fun _ _ => rfl, ?_⟩; go_big_quiet_on)))
          (first | go_big_quiet_skip | (go_big_quiet_want; go_big_quiet_op; first | go_big_quiet_on | (refine ⟨_, fun _ _ => rfl, ?_⟩; go_big_quiet_on)))
          (first | go_big_quiet_skip | (go_big_quiet_want; go_big_quiet_op; first | go_big_quiet_on | (refine ⟨_, fun _ _ => rfl, ?_⟩; go_big_quiet_on)))
          (first | go_big_quiet_skip | (go_big_quiet_want; refine Hp.quiet_val _ (fun W hW => by have F := Hp.Sh.facts hW; have hd := Hp.Sh.data hW; (try simp only [Hp.Facts, Hp.CellsAt, Nat.reduceAdd, List.cons_append, List.nil_append] at F); have hm := RegP.MemIs.cell hd; go_simp; rfl) ?_; (try simp only [Act.put, List.setIfInBounds_toArray, List.set_cons_zero, List.set_cons_succ]); go_big_quiet_on) | (go_big_quiet_want; refine Hp.quiet_val _ (fun W hW => by have F := Hp.Sh.facts hW; have hd := Hp.Sh.data hW; (try simp only [Hp.Facts, Hp.CellsAt, Nat.reduceAdd, List.cons_append, List.nil_append] at F); have hm := RegP.MemIs.cell hd; go_simp) ?_; (try simp only [Act.put, List.setIfInBounds_toArray, List.set_cons_zero, List.set_cons_succ]); go_big_quiet_on))
          (first | go_big_quiet_skip | (go_big_quiet_want; go_big_quiet_op; first | go_big_quiet_on | (refine ⟨_, fun _ _ => rfl, ?_⟩; go_big_quiet_on)))
          (first | go_big_quiet_skip | (go_big_quiet_want; go_big_quiet_op; first | go_big_quiet_on | (refine ⟨_, fun _ _ => rfl, ?_⟩; go_big_quiet_on)))
          (first | go_big_quiet_skip | (go_big_quiet_want; go_big_quiet_op; first | go_big_quiet_on | (refine ⟨_, fun _ _ => rfl, ?_⟩; go_big_quiet_on)))
          (first | go_big_quiet_skip | (go_big_quiet_want; refine Hp.quiet_val _ (fun W hW => by have F := Hp.Sh.facts hW; have hd := Hp.Sh.data hW; (try simp only [Hp.Facts, Hp.CellsAt, Nat.reduceAdd, List.cons_append, List.nil_append] at F); have hm := RegP.MemIs.cell hd; go_simp; rfl) ?_; (try simp only [Act.put, List.setIfInBounds_toArray, List.set_cons_zero, List.set_cons_succ]); go_big_quiet_on) | (go_big_quiet_want; refine Hp.quiet_val _ (fun W hW => by have F := Hp.Sh.facts hW; have hd := Hp.Sh.data hW; (try simp only [Hp.Facts, Hp.CellsAt, Nat.reduceAdd, List.cons_append, List.nil_append] at F); have hm := RegP.MemIs.cell hd; go_simp) ?_; (try simp only [Act.put, List.setIfInBounds_toArray, List.set_cons_zero, List.set_cons_succ]); go_big_quiet_on))
          (first | go_big_quiet_skip | (go_big_quiet_want; go_big_quiet_op; first | go_big_quiet_on | (refine ⟨_, fun _ _ => rfl, ?_⟩; go_big_quiet_on)))
          (first | go_big_quiet_skip | (go_big_quiet_want; go_big_quiet_op; first | go_big_quiet_on | (refine ⟨_, fun _ _ => rfl, ?_⟩; go_big_quiet_on)))
          (first | go_big_quiet_skip | (go_big_quiet_want; go_big_quiet_op; first | go_big_quiet_on | (refine ⟨_, fun _ _ => rfl, ?_⟩; go_big_quiet_on)))
          (first | go_big_quiet_skip | (go_big_quiet_want; go_big_quiet_op; first | go_big_quiet_on | (refine ⟨_, fun _ _ => rfl, ?_⟩; go_big_quiet_on)))
          (first | go_big_quiet_skip | (go_big_quiet_want; go_big_quiet_op; first | go_big_quiet_on | (refine ⟨_, fun _ _ => rfl, ?_⟩; go_big_quiet_on)))
          (first | go_big_quiet_skip | (go_big_quiet_want; refine Hp.quiet_val _ (fun W hW => by have F := Hp.Sh.facts hW; have hd := Hp.Sh.data hW; (try simp only [Hp.Facts, Hp.CellsAt, Nat.reduceAdd, List.cons_append, List.nil_append] at F); have hm := RegP.MemIs.cell hd; go_simp; rfl) ?_; (try simp only [Act.put, List.setIfInBounds_toArray, List.set_cons_zero, List.set_cons_succ]); go_big_quiet_on) | (go_big_quiet_want; refine Hp.quiet_val _ (fun W hW => by have F := Hp.Sh.facts hW; have hd := Hp.Sh.data hW; (try simp only [Hp.Facts, Hp.CellsAt, Nat.reduceAdd, List.cons_append, List.nil_append] at F); have hm := RegP.MemIs.cell hd; go_simp) ?_; (try simp only [Act.put, List.setIfInBounds_toArray, List.set_cons_zero, List.set_cons_succ]); go_big_quiet_on))
          (first | go_big_quiet_skip | (go_big_quiet_want; go_big_quiet_op; first | go_big_quiet_on | (refine ⟨_, fun _ _ => rfl, ?_⟩; go_big_quiet_on)))
          (first | go_big_quiet_skip | (go_big_quiet_want; go_big_quiet_op; first | go_big_quiet_on | (refine ⟨_, fun _ _ => rfl, ?_⟩; go_big_quiet_on)))
          (first | go_big_quiet_skip | (go_big_quiet_want; go_big_quiet_op; first | go_big_quiet_on | (refine ⟨_, fun _ _ => rfl, ?_⟩; go_big_quiet_on)))
          (first | go_big_quiet_skip | (go_big_quiet_want; refine Hp.quiet_val _ (fun W hW => by have F := Hp.Sh.facts hW; have hd := Hp.Sh.data hW; (try simp only [Hp.Facts, Hp.CellsAt, Nat.reduceAdd, List.cons_append, List.nil_append] at F); have hm := RegP.MemIs.cell hd; go_simp; rfl) ?_; (try simp only [Act.put, List.setIfInBounds_toArray, List.set_cons_zero, List.set_cons_succ]); go_big_quiet_on) | (go_big_quiet_want; refine Hp.quiet_val _ (fun W hW => by have F := Hp.Sh.facts hW; have hd := Hp.Sh.data hW; (try simp only [Hp.Facts, Hp.CellsAt, Nat.reduceAdd, List.cons_append, List.nil_append] at F); have hm := RegP.MemIs.cell hd; go_simp) ?_; (try simp only [Act.put, List.setIfInBounds_toArray, List.set_cons_zero, List.set_cons_succ]); go_big_quiet_on))
          (first | go_big_quiet_skip | (go_big_quiet_want; go_big_quiet_op; first | go_big_quiet_on | (refine ⟨_, fun _ _ => rfl, ?_⟩; go_big_quiet_on)))
          (first | go_big_quiet_skip | (go_big_quiet_want; go_big_quiet_op; first | go_big_quiet_on | (refine ⟨_, fun _ _ => rfl, ?_⟩; go_big_quiet_on)))
          (first | go_big_quiet_skip | (go_big_quiet_want; refine Hp.quiet_val _ (fun W hW => by have F := Hp.Sh.facts hW; have hd := Hp.Sh.data hW; (try simp only [Hp.Facts, Hp.CellsAt, Nat.reduceAdd, List.cons_append, List.nil_append] at F); have hm := RegP.MemIs.cell hd; go_simp; rfl) ?_; (try simp only [Act.put, List.setIfInBounds_toArray, List.set_cons_zero, List.set_cons_succ]); go_big_quiet_on) | (go_big_quiet_want; refine Hp.quiet_val _ (fun W hW => by have F := Hp.Sh.facts hW; have hd := Hp.Sh.data hW; (try simp only [Hp.Facts, Hp.CellsAt, Nat.reduceAdd, List.cons_append, List.nil_append] at F); have hm := RegP.MemIs.cell hd; go_simp) ?_; (try simp only [Act.put, List.setIfInBounds_toArray, List.set_cons_zero, List.set_cons_succ]); go_big_quiet_on))
          (first | go_big_quiet_skip | (go_big_quiet_want; go_big_quiet_op; first | go_big_quiet_on | (refine ⟨_, fun _ _ => rfl, ?_⟩; go_big_quiet_on)))
          (first | go_big_quiet_skip | (go_big_quiet_want; go_big_quiet_op; first | go_big_quiet_on | (refine ⟨_, fun _ _ => rfl, ?_⟩; go_big_quiet_on)))
          (first | go_big_quiet_skip | (go_big_quiet_want; go_big_quiet_op; first | go_big_quiet_on | (refine ⟨_, fun _ _ => rfl, ?_⟩; go_big_quiet_on)))
          (first | go_big_quiet_skip | (go_big_quiet_want; go_big_quiet_op; first | go_big_quiet_on | (refine ⟨_, fun _ _ => rfl, ?_⟩; go_big_quiet_on)))
          refine wpQuiet_nil ?_; intro w1 sh; have F := sh.facts; (try simp only [Hp.Facts, Hp.CellsAt, Nat.reduceAdd, List.cons_append, List.nil_append] at F)
          go_wp2_with (first
              | ((with_reducible refine Hp.wpl_box sh ?_ ?_); exact rfl; clear sh; (try clear F); go_simp; intro b w1 sh; have F := sh.facts; (try simp only [Hp.Facts, Hp.CellsAt, Nat.reduceAdd, List.cons_append, List.nil_append] at F))
              | ((with_reducible refine Hp.atl_store ?_ ?_); exact rfl; (first | refine Hp.wp_store 0 sh rfl rfl rfl rfl (by kernel_rfl) (Nat.le_of_ble_eq_true rfl) rfl ?_ | refine Hp.wp_store 1 sh rfl rfl rfl rfl (by kernel_rfl) (Nat.le_of_ble_eq_true rfl) rfl ?_ | refine Hp.wp_store 2 sh rfl rfl rfl rfl (by kernel_rfl) (Nat.le_of_ble_eq_true rfl) rfl ?_ | refine Hp.wp_store 3 sh rfl rfl rfl rfl (by kernel_rfl) (Nat.le_of_ble_eq_true rfl) rfl ?_ | refine Hp.wp_store 4 sh rfl rfl rfl rfl (by kernel_rfl) (Nat.le_of_ble_eq_true rfl) rfl ?_ | refine Hp.wp_store 5 sh rfl rfl rfl rfl (by kernel_rfl) (Nat.le_of_ble_eq_true rfl) rfl ?_ | refine Hp.wp_store 6 sh rfl rfl rfl rfl (by kernel_rfl) (Nat.le_of_ble_eq_true rfl) rfl ?_); clear sh; (try clear F); go_simp; intro w1 sh; have F := sh.facts; (try simp only [Hp.Facts, Hp.CellsAt, Nat.reduceAdd, List.cons_append, List.nil_append] at F))
              | fail)
          go_ret
          exact ⟨rfl, sh.below⟩
      · have d3 : decide (b ≤ (n : Int)) = false := decide_eq_false h3
        rw [show RegP.oc n b z = false from decide_eq_false (fun h => by omega)]
        go_enter Try.func44, Try.ntmps44
        have tok_bp : True := trivial
        go_wp2_with (first
            | ((have tok := tok_bp); clear tok tok_bp; (first | (with_reducible refine Hp.wpl_box sh ?_ ?_)); exact rfl; clear sh; (try clear F); go_simp; intro bp w1 sh; have F := sh.facts; (try simp only [Hp.Facts, Hp.CellsAt, Nat.reduceAdd, List.cons_append, List.nil_append] at F))
            | ((with_reducible refine Hp.wpl_box sh ?_ ?_); exact rfl; clear sh; (try clear F); go_simp; intro b w1 sh; have F := sh.facts; (try simp only [Hp.Facts, Hp.CellsAt, Nat.reduceAdd, List.cons_append, List.nil_append] at F))
            | ((with_reducible refine Hp.atl_store ?_ ?_); exact rfl; (first | refine Hp.wp_store 0 sh rfl rfl rfl rfl (by kernel_rfl) (Nat.le_of_ble_eq_true rfl) rfl ?_ | refine Hp.wp_store 1 sh rfl rfl rfl rfl (by kernel_rfl) (Nat.le_of_ble_eq_true rfl) rfl ?_ | refine Hp.wp_store 2 sh rfl rfl rfl rfl (by kernel_rfl) (Nat.le_of_ble_eq_true rfl) rfl ?_ | refine Hp.wp_store 3 sh rfl rfl rfl rfl (by kernel_rfl) (Nat.le_of_ble_eq_true rfl) rfl ?_ | refine Hp.wp_store 4 sh rfl rfl rfl rfl (by kernel_rfl) (Nat.le_of_ble_eq_true rfl) rfl ?_ | refine Hp.wp_store 5 sh rfl rfl rfl rfl (by kernel_rfl) (Nat.le_of_ble_eq_true rfl) rfl ?_ | refine Hp.wp_store 6 sh rfl rfl rfl rfl (by kernel_rfl) (Nat.le_of_ble_eq_true rfl) rfl ?_); clear sh; (try clear F); go_simp; intro w1 sh; have F := sh.facts; (try simp only [Hp.Facts, Hp.CellsAt, Nat.reduceAdd, List.cons_append, List.nil_append] at F))
            | fail)
        refine wp_region_quiet (C := Hp.Cls _ _ _) (by kernel_rfl) (by kernel_rfl) sh.drew ?_; clear sh; (try clear F)
        (try simp only [])
        (first | go_big_quiet_skip | (go_big_quiet_want; go_big_quiet_op; first | go_big_quiet_on | (refine ⟨_, fun _ _ => rfl, ?_⟩; go_big_quiet_on)))
        (first | go_big_quiet_skip | (go_big_quiet_want; refine Hp.quiet_val _ (fun W hW => by have F := Hp.Sh.facts hW; have hd := Hp.Sh.data hW; (try simp only [Hp.Facts, Hp.CellsAt, Nat.reduceAdd, List.cons_append, List.nil_append] at F); have hm := RegP.MemIs.cell hd; go_simp; rfl) ?_; (try simp only [Act.put, List.setIfInBounds_toArray, List.set_cons_zero, List.set_cons_succ]); go_big_quiet_on) | (go_big_quiet_want; refine Hp.quiet_val _ (fun W hW => by have F := Hp.Sh.facts hW; have hd := Hp.Sh.data hW; (try simp only [Hp.Facts, Hp.CellsAt, Nat.reduceAdd, List.cons_append, List.nil_append] at F); have hm := RegP.MemIs.cell hd; go_simp) ?_; (try simp only [Act.put, List.setIfInBounds_toArray, List.set_cons_zero, List.set_cons_succ]); go_big_quiet_on))
        (first | go_big_quiet_skip | (go_big_quiet_want; go_big_quiet_op; first | go_big_quiet_on | (refine ⟨_, fun _ _ => rfl, ?_⟩; go_big_quiet_on)))
        (first | go_big_quiet_skip | (go_big_quiet_want; go_big_quiet_op; first | go_big_quiet_on | (refine ⟨_, fun _ _ => rfl, ?_⟩; go_big_quiet_on)))
        (first | go_big_quiet_skip | (go_big_quiet_want; go_big_quiet_op; first | go_big_quiet_on | (refine ⟨_, fun _ _ => rfl, ?_⟩; go_big_quiet_on)))
        (first | go_big_quiet_skip | (go_big_quiet_want; refine Hp.quiet_val _ (fun W hW => by have F := Hp.Sh.facts hW; have hd := Hp.Sh.data hW; (try simp only [Hp.Facts, Hp.CellsAt, Nat.reduceAdd, List.cons_append, List.nil_append] at F); have hm := RegP.MemIs.cell hd; go_simp; rfl) ?_; (try simp only [Act.put, List.setIfInBounds_toArray, List.set_cons_zero, List.set_cons_succ]); go_big_quiet_on) | (go_big_quiet_want; refine Hp.quiet_val _ (fun W hW => by have F := Hp.Sh.facts hW; have hd := Hp.Sh.data hW; (try simp only [Hp.Facts, Hp.CellsAt, Nat.reduceAdd, List.cons_append, List.nil_append] at F); have hm := RegP.MemIs.cell hd; go_simp) ?_; (try simp only [Act.put, List.setIfInBounds_toArray, List.set_cons_zero, List.set_cons_succ]); go_big_quiet_on))
        (first | go_big_quiet_skip | (go_big_quiet_want; go_big_quiet_op; first | go_big_quiet_on | (refine ⟨_, fun _ _ => rfl, ?_⟩; go_big_quiet_on)))
        (first | go_big_quiet_skip | (go_big_quiet_want; go_big_quiet_op; first | go_big_quiet_on | (refine ⟨_, fun _ _ => rfl, ?_⟩; go_big_quiet_on)))
        (first | go_big_quiet_skip | (go_big_quiet_want; go_big_quiet_op; first | go_big_quiet_on | (refine ⟨_, fun _ _ => rfl, ?_⟩; go_big_quiet_on)))
        (first | go_big_quiet_skip | (go_big_quiet_want; go_big_quiet_op; first | go_big_quiet_on | (refine ⟨_, fun _ _ => rfl, ?_⟩; go_big_quiet_on)))
        (first | go_big_quiet_skip | (go_big_quiet_want; refine Hp.quiet_val _ (fun W hW => by have F := Hp.Sh.facts hW; have hd := Hp.Sh.data hW; (try simp only [Hp.Facts, Hp.CellsAt, Nat.reduceAdd, List.cons_append, List.nil_append] at F); have hm := RegP.MemIs.cell hd; go_simp; rfl) ?_; (try simp only [Act.put, List.setIfInBounds_toArray, List.set_cons_zero, List.set_cons_succ]); go_big_quiet_on) | (go_big_quiet_want; refine Hp.quiet_val _ (fun W hW => by have F := Hp.Sh.facts hW; have hd := Hp.Sh.data hW; (try simp only [Hp.Facts, Hp.CellsAt, Nat.reduceAdd, List.cons_append, List.nil_append] at F); have hm := RegP.MemIs.cell hd; go_simp) ?_; (try simp only [Act.put, List.setIfInBounds_toArray, List.set_cons_zero, List.set_cons_succ]); go_big_quiet_on))
        (first | go_big_quiet_skip | (go_big_quiet_want; go_big_quiet_op; first | go_big_quiet_on | (refine ⟨_, fun _ _ => rfl, ?_⟩; go_big_quiet_on)))
        (first | go_big_quiet_skip | (go_big_quiet_want; go_big_quiet_op; first | go_big_quiet_on | (refine ⟨_, fun _ _ => rfl, ?_⟩; go_big_quiet_on)))
        (first | go_big_quiet_skip | (go_big_quiet_want; go_big_quiet_op; first | go_big_quiet_on | (refine ⟨_, fun _ _ => rfl, ?_⟩; go_big_quiet_on)))
        (first | go_big_quiet_skip | (go_big_quiet_want; refine Hp.quiet_val _ (fun W hW => by have F := Hp.Sh.facts hW; have hd := Hp.Sh.data hW; (try simp only [Hp.Facts, Hp.CellsAt, Nat.reduceAdd, List.cons_append, List.nil_append] at F); have hm := RegP.MemIs.cell hd; go_simp; rfl) ?_; (try simp only [Act.put, List.setIfInBounds_toArray, List.set_cons_zero, List.set_cons_succ]); go_big_quiet_on) | (go_big_quiet_want; refine Hp.quiet_val _ (fun W hW => by have F := Hp.Sh.facts hW; have hd := Hp.Sh.data hW; (try simp only [Hp.Facts, Hp.CellsAt, Nat.reduceAdd, List.cons_append, List.nil_append] at F); have hm := RegP.MemIs.cell hd; go_simp) ?_; (try simp only [Act.put, List.setIfInBounds_toArray, List.set_cons_zero, List.set_cons_succ]); go_big_quiet_on))
        (first | go_big_quiet_skip | (go_big_quiet_want; go_big_quiet_op; first | go_big_quiet_on | (refine ⟨_, fun _ _ => rfl, ?_⟩; go_big_quiet_on)))
        (first | go_big_quiet_skip | (go_big_quiet_want; go_big_quiet_op; first | go_big_quiet_on | (refine ⟨_, fun _ _ => rfl, ?_⟩; go_big_quiet_on)))
        (first | go_big_quiet_skip | (go_big_quiet_want; go_big_quiet_op; first | go_big_quiet_on | (refine ⟨_, fun _ _ => rfl, ?_⟩; go_big_quiet_on)))
        (first | go_big_quiet_skip | (go_big_quiet_want; go_big_quiet_op; first | go_big_quiet_on | (refine ⟨_, fun _ _ => rfl, ?_⟩; go_big_quiet_on)))
        (first | go_big_quiet_skip | (go_big_quiet_want; go_big_quiet_op; first | go_big_quiet_on | (refine ⟨_, fun _ _ => rfl, ?_⟩; go_big_quiet_on)))
        (first | go_big_quiet_skip | (go_big_quiet_want; refine Hp.quiet_val _ (fun W hW => by have F := Hp.Sh.facts hW; have hd := Hp.Sh.data hW; (try simp only [Hp.Facts, Hp.CellsAt, Nat.reduceAdd, List.cons_append, List.nil_append] at F); have hm := RegP.MemIs.cell hd; go_simp; rfl) ?_; (try simp only [Act.put, List.setIfInBounds_toArray, List.set_cons_zero, List.set_cons_succ]); go_big_quiet_on) | (go_big_quiet_want; refine Hp.quiet_val _ (fun W hW => by have F := Hp.Sh.facts hW; have hd := Hp.Sh.data hW; (try simp only [Hp.Facts, Hp.CellsAt, Nat.reduceAdd, List.cons_append, List.nil_append] at F); have hm := RegP.MemIs.cell hd; go_simp) ?_; (try simp only [Act.put, List.setIfInBounds_toArray, List.set_cons_zero, List.set_cons_succ]); go_big_quiet_on))
        (first | go_big_quiet_skip | (go_big_quiet_want; go_big_quiet_op; first | go_big_quiet_on | (refine ⟨_, fun _ _ => rfl, ?_⟩; go_big_quiet_on)))
        (first | go_big_quiet_skip | (go_big_quiet_want; go_big_quiet_op; first | go_big_quiet_on | (refine ⟨_, fun _ _ => rfl, ?_⟩; go_big_quiet_on)))
        (first | go_big_quiet_skip | (go_big_quiet_want; go_big_quiet_op; first | go_big_quiet_on | (refine ⟨_, fun _ _ => rfl, ?_⟩; go_big_quiet_on)))
        (first | go_big_quiet_skip | (go_big_quiet_want; refine Hp.quiet_val _ (fun W hW => by have F := Hp.Sh.facts hW; have hd := Hp.Sh.data hW; (try simp only [Hp.Facts, Hp.CellsAt, Nat.reduceAdd, List.cons_append, List.nil_append] at F); have hm := RegP.MemIs.cell hd; go_simp; rfl) ?_; (try simp only [Act.put, List.setIfInBounds_toArray, List.set_cons_zero, List.set_cons_succ]); go_big_quiet_on) | (go_big_quiet_want; refine Hp.quiet_val _ (fun W hW => by have F := Hp.Sh.facts hW; have hd := Hp.Sh.data hW; (try simp only [Hp.Facts, Hp.CellsAt, Nat.reduceAdd, List.cons_append, List.nil_append] at F); have hm := RegP.MemIs.cell hd; go_simp) ?_; (try simp only [Act.put, List.setIfInBounds_toArray, List.set_cons_zero, List.set_cons_succ]); go_big_quiet_on))
        (first | go_big_quiet_skip | (go_big_quiet_want; go_big_quiet_op; first | go_big_quiet_on | (refine ⟨_, fun _ _ => rfl, ?_⟩; go_big_quiet_on)))
        (first | go_big_quiet_skip | (go_big_quiet_want; go_big_quiet_op; first | go_big_quiet_on | (refine ⟨_, fun _ _ => rfl, ?_⟩; go_big_quiet_on)))
        (first | go_big_quiet_skip | (go_big_quiet_want; refine Hp.quiet_val _ (fun W hW => by have F := Hp.Sh.facts hW; have hd := Hp.Sh.data hW; (try simp only [Hp.Facts, Hp.CellsAt, Nat.reduceAdd, List.cons_append, List.nil_append] at F); have hm := RegP.MemIs.cell hd; go_simp; rfl) ?_; (try simp only [Act.put, List.setIfInBounds_toArray, List.set_cons_zero, List.set_cons_succ]); go_big_quiet_on) | (go_big_quiet_want; refine Hp.quiet_val _ (fun W hW => by have F := Hp.Sh.facts hW; have hd := Hp.Sh.data hW; (try simp only [Hp.Facts, Hp.CellsAt, Nat.reduceAdd, List.cons_append, List.nil_append] at F); have hm := RegP.MemIs.cell hd; go_simp) ?_; (try simp only [Act.put, List.setIfInBounds_toArray, List.set_cons_zero, List.set_cons_succ]); go_big_quiet_on))
        (first | go_big_quiet_skip | (go_big_quiet_want; go_big_quiet_op; first | go_big_quiet_on | (refine ⟨_, fun _ _ => rfl, ?_⟩; go_big_quiet_on)))
        (first | go_big_quiet_skip | (go_big_quiet_want; go_big_quiet_op; first | go_big_quiet_on | (refine ⟨_, fun _ _ => rfl, ?_⟩; go_big_quiet_on)))
        (first | go_big_quiet_skip | (go_big_quiet_want; go_big_quiet_op; first | go_big_quiet_on | (refine ⟨_, fun _ _ => rfl, ?_⟩; go_big_quiet_on)))
        (first | go_big_quiet_skip | (go_big_quiet_want; go_big_quiet_op; first | go_big_quiet_on | (refine ⟨_, fun _ _ => rfl, ?_⟩; go_big_quiet_on)))
        refine wpQuiet_nil ?_; intro w1 sh; have F := sh.facts; (try simp only [Hp.Facts, Hp.CellsAt, Nat.reduceAdd, List.cons_append, List.nil_append] at F)
        go_wp2_with (first
            | ((with_reducible refine Hp.wpl_box sh ?_ ?_); exact rfl; clear sh; (try clear F); go_simp; intro b w1 sh; have F := sh.facts; (try simp only [Hp.Facts, Hp.CellsAt, Nat.reduceAdd, List.cons_append, List.nil_append] at F))
            | ((with_reducible refine Hp.atl_store ?_ ?_); exact rfl; (first | refine Hp.wp_store 0 sh rfl rfl rfl rfl (by kernel_rfl) (Nat.le_of_ble_eq_true rfl) rfl ?_ | refine Hp.wp_store 1 sh rfl rfl rfl rfl (by kernel_rfl) (Nat.le_of_ble_eq_true rfl) rfl ?_ | refine Hp.wp_store 2 sh rfl rfl rfl rfl (by kernel_rfl) (Nat.le_of_ble_eq_true rfl) rfl ?_ | refine Hp.wp_store 3 sh rfl rfl rfl rfl (by kernel_rfl) (Nat.le_of_ble_eq_true rfl) rfl ?_ | refine Hp.wp_store 4 sh rfl rfl rfl rfl (by kernel_rfl) (Nat.le_of_ble_eq_true rfl) rfl ?_ | refine Hp.wp_store 5 sh rfl rfl rfl rfl (by kernel_rfl) (Nat.le_of_ble_eq_true rfl) rfl ?_ | refine Hp.wp_store 6 sh rfl rfl rfl rfl (by kernel_rfl) (Nat.le_of_ble_eq_true rfl) rfl ?_); clear sh; (try clear F); go_simp; intro w1 sh; have F := sh.facts; (try simp only [Hp.Facts, Hp.CellsAt, Nat.reduceAdd, List.cons_append, List.nil_append] at F))
            | fail)
        go_ret
        exact ⟨rfl, sh.below⟩
    · have d2 : decide (1 ≤ z) = false := decide_eq_false h2
      rw [show RegP.oc n b z = false from decide_eq_false (fun h => h2 h.2.1)]
      go_enter Try.func44, Try.ntmps44
      have tok_bp : True := trivial
      go_wp2_with (first
          | ((have tok := tok_bp); clear tok tok_bp; (first | (with_reducible refine Hp.wpl_box sh ?_ ?_)); exact rfl; clear sh; (try clear F); go_simp; intro bp w1 sh; have F := sh.facts; (try simp only [Hp.Facts, Hp.CellsAt, Nat.reduceAdd, List.cons_append, List.nil_append] at F))
          | ((with_reducible refine Hp.wpl_box sh ?_ ?_); exact rfl; clear sh; (try clear F); go_simp; intro b w1 sh; have F := sh.facts; (try simp only [Hp.Facts, Hp.CellsAt, Nat.reduceAdd, List.cons_append, List.nil_append] at F))
          | ((with_reducible refine Hp.atl_store ?_ ?_); exact rfl; (first | refine Hp.wp_store 0 sh rfl rfl rfl rfl (by kernel_rfl) (Nat.le_of_ble_eq_true rfl) rfl ?_ | refine Hp.wp_store 1 sh rfl rfl rfl rfl (by kernel_rfl) (Nat.le_of_ble_eq_true rfl) rfl ?_ | refine Hp.wp_store 2 sh rfl rfl rfl rfl (by kernel_rfl) (Nat.le_of_ble_eq_true rfl) rfl ?_ | refine Hp.wp_store 3 sh rfl rfl rfl rfl (by kernel_rfl) (Nat.le_of_ble_eq_true rfl) rfl ?_ | refine Hp.wp_store 4 sh rfl rfl rfl rfl (by kernel_rfl) (Nat.le_of_ble_eq_true rfl) rfl ?_ | refine Hp.wp_store 5 sh rfl rfl rfl rfl (by kernel_rfl) (Nat.le_of_ble_eq_true rfl) rfl ?_ | refine Hp.wp_store 6 sh rfl rfl rfl rfl (by kernel_rfl) (Nat.le_of_ble_eq_true rfl) rfl ?_); clear sh; (try clear F); go_simp; intro w1 sh; have F := sh.facts; (try simp only [Hp.Facts, Hp.CellsAt, Nat.reduceAdd, List.cons_append, List.nil_append] at F))
          | fail)
      refine wp_region_quiet (C := Hp.Cls _ _ _) (by kernel_rfl) (by kernel_rfl) sh.drew ?_; clear sh; (try clear F)
      (try simp only [])
      (first | go_big_quiet_skip | (go_big_quiet_want; go_big_quiet_op; first | go_big_quiet_on | (refine ⟨_, fun _ _ => rfl, ?_⟩; go_big_quiet_on)))
      (first | go_big_quiet_skip | (go_big_quiet_want; refine Hp.quiet_val _ (fun W hW => by have F := Hp.Sh.facts hW; have hd := Hp.Sh.data hW; (try simp only [Hp.Facts, Hp.CellsAt, Nat.reduceAdd, List.cons_append, List.nil_append] at F); have hm := RegP.MemIs.cell hd; go_simp; rfl) ?_; (try simp only [Act.put, List.setIfInBounds_toArray, List.set_cons_zero, List.set_cons_succ]); go_big_quiet_on) | (go_big_quiet_want; refine Hp.quiet_val _ (fun W hW => by have F := Hp.Sh.facts hW; have hd := Hp.Sh.data hW; (try simp only [Hp.Facts, Hp.CellsAt, Nat.reduceAdd, List.cons_append, List.nil_append] at F); have hm := RegP.MemIs.cell hd; go_simp) ?_; (try simp only [Act.put, List.setIfInBounds_toArray, List.set_cons_zero, List.set_cons_succ]); go_big_quiet_on))
      (first | go_big_quiet_skip | (go_big_quiet_want; go_big_quiet_op; first | go_big_quiet_on | (refine ⟨_, fun _ _ => rfl, ?_⟩; go_big_quiet_on)))
      (first | go_big_quiet_skip | (go_big_quiet_want; go_big_quiet_op; first | go_big_quiet_on | (refine ⟨_, fun _ _ => rfl, ?_⟩; go_big_quiet_on)))
      (first | go_big_quiet_skip | (go_big_quiet_want; go_big_quiet_op; first | go_big_quiet_on | (refine ⟨_, fun _ _ => rfl, ?_⟩; go_big_quiet_on)))
      (first | go_big_quiet_skip | (go_big_quiet_want; refine Hp.quiet_val _ (fun W hW => by have F := Hp.Sh.facts hW; have hd := Hp.Sh.data hW; (try simp only [Hp.Facts, Hp.CellsAt, Nat.reduceAdd, List.cons_append, List.nil_append] at F); have hm := RegP.MemIs.cell hd; go_simp; rfl) ?_; (try simp only [Act.put, List.setIfInBounds_toArray, List.set_cons_zero, List.set_cons_succ]); go_big_quiet_on) | (go_big_quiet_want; refine Hp.quiet_val _ (fun W hW => by have F := Hp.Sh.facts hW; have hd := Hp.Sh.data hW; (try simp only [Hp.Facts, Hp.CellsAt, Nat.reduceAdd, List.cons_append, List.nil_append] at F); have hm := RegP.MemIs.cell hd; go_simp) ?_; (try simp only [Act.put, List.setIfInBounds_toArray, List.set_cons_zero, List.set_cons_succ]); go_big_quiet_on))
      (first | go_big_quiet_skip | (go_big_quiet_want; go_big_quiet_op; first | go_big_quiet_on | (refine ⟨_, fun _ _ => rfl, ?_⟩; go_big_quiet_on)))
      (first | go_big_quiet_skip | (go_big_quiet_want; go_big_quiet_op; first | go_big_quiet_on | (refine ⟨_, fun _ _ => rfl, ?_⟩; go_big_quiet_on)))
      (first | go_big_quiet_skip | (go_big_quiet_want; go_big_quiet_op; first | go_big_quiet_on | (refine ⟨_, fun _ _ => rfl, ?_⟩; go_big_quiet_on)))
      (first | go_big_quiet_skip | (go_big_quiet_want; go_big_quiet_op; first | go_big_quiet_on | (refine ⟨_, fun _ _ => rfl, ?_⟩; go_big_quiet_on)))
      (first | go_big_quiet_skip | (go_big_quiet_want; refine Hp.quiet_val _ (fun W hW => by have F := Hp.Sh.facts hW; have hd := Hp.Sh.data hW; (try simp only [Hp.Facts, Hp.CellsAt, Nat.reduceAdd, List.cons_append, List.nil_append] at F); have hm := RegP.MemIs.cell hd; go_simp; rfl) ?_; (try simp only [Act.put, List.setIfInBounds_toArray, List.set_cons_zero, List.set_cons_succ]); go_big_quiet_on) | (go_big_quiet_want; refine Hp.quiet_val _ (fun W hW => by have F := Hp.Sh.facts hW; have hd := Hp.Sh.data hW; (try simp only [Hp.Facts, Hp.CellsAt, Nat.reduceAdd, List.cons_append, List.nil_append] at F); have hm := RegP.MemIs.cell hd; go_simp) ?_; (try simp only [Act.put, List.setIfInBounds_toArray, List.set_cons_zero, List.set_cons_succ]); go_big_quiet_on))
      (first | go_big_quiet_skip | (go_big_quiet_want; go_big_quiet_op; first | go_big_quiet_on | (refine ⟨_, fun _ _ => rfl, ?_⟩; go_big_quiet_on)))
      (first | go_big_quiet_skip | (go_big_quiet_want; go_big_quiet_op; first | go_big_quiet_on | (refine ⟨_, fun _ _ => rfl, ?_⟩; go_big_quiet_on)))
      (first | go_big_quiet_skip | (go_big_quiet_want; go_big_quiet_op; first | go_big_quiet_on | (refine ⟨_, fun _ _ => rfl, ?_⟩; go_big_quiet_on)))
      (first | go_big_quiet_skip | (go_big_quiet_want; refine Hp.quiet_val _ (fun W hW => by have F := Hp.Sh.facts hW; have hd := Hp.Sh.data hW; (try simp only [Hp.Facts, Hp.CellsAt, Nat.reduceAdd, List.cons_append, List.nil_append] at F); have hm := RegP.MemIs.cell hd; go_simp; rfl) ?_; (try simp only [Act.put, List.setIfInBounds_toArray, List.set_cons_zero, List.set_cons_succ]); go_big_quiet_on) | (go_big_quiet_want; refine Hp.quiet_val _ (fun W hW => by have F := Hp.Sh.facts hW; have hd := Hp.Sh.data hW; (try simp only [Hp.Facts, Hp.CellsAt, Nat.reduceAdd, List.cons_append, List.nil_append] at F); have hm := RegP.MemIs.cell hd; go_simp) ?_; (try simp only [Act.put, List.setIfInBounds_toArray, List.set_cons_zero, List.set_cons_succ]); go_big_quiet_on))
      (first | go_big_quiet_skip | (go_big_quiet_want; go_big_quiet_op; first | go_big_quiet_on | (refine ⟨_, fun _ _ => rfl, ?_⟩; go_big_quiet_on)))
      (first | go_big_quiet_skip | (go_big_quiet_want; go_big_quiet_op; first | go_big_quiet_on | (refine ⟨_, fun _ _ => rfl, ?_⟩; go_big_quiet_on)))
      (first | go_big_quiet_skip | (go_big_quiet_want; go_big_quiet_op; first | go_big_quiet_on | (refine ⟨_, fun _ _ => rfl, ?_⟩; go_big_quiet_on)))
      (first | go_big_quiet_skip | (go_big_quiet_want; go_big_quiet_op; first | go_big_quiet_on | (refine ⟨_, fun _ _ => rfl, ?_⟩; go_big_quiet_on)))
      (first | go_big_quiet_skip | (go_big_quiet_want; go_big_quiet_op; first | go_big_quiet_on | (refine ⟨_, fun _ _ => rfl, ?_⟩; go_big_quiet_on)))
      (first | go_big_quiet_skip | (go_big_quiet_want; refine Hp.quiet_val _ (fun W hW => by have F := Hp.Sh.facts hW; have hd := Hp.Sh.data hW; (try simp only [Hp.Facts, Hp.CellsAt, Nat.reduceAdd, List.cons_append, List.nil_append] at F); have hm := RegP.MemIs.cell hd; go_simp; rfl) ?_; (try simp only [Act.put, List.setIfInBounds_toArray, List.set_cons_zero, List.set_cons_succ]); go_big_quiet_on) | (go_big_quiet_want; refine Hp.quiet_val _ (fun W hW => by have F := Hp.Sh.facts hW; have hd := Hp.Sh.data hW; (try simp only [Hp.Facts, Hp.CellsAt, Nat.reduceAdd, List.cons_append, List.nil_append] at F); have hm := RegP.MemIs.cell hd; go_simp) ?_; (try simp only [Act.put, List.setIfInBounds_toArray, List.set_cons_zero, List.set_cons_succ]); go_big_quiet_on))
      (first | go_big_quiet_skip | (go_big_quiet_want; go_big_quiet_op; first | go_big_quiet_on | (refine ⟨_, fun _ _ => rfl, ?_⟩; go_big_quiet_on)))
      (first | go_big_quiet_skip | (go_big_quiet_want; go_big_quiet_op; first | go_big_quiet_on | (refine ⟨_, fun _ _ => rfl, ?_⟩; go_big_quiet_on)))
      (first | go_big_quiet_skip | (go_big_quiet_want; go_big_quiet_op; first | go_big_quiet_on | (refine ⟨_, fun _ _ => rfl, ?_⟩; go_big_quiet_on)))
      (first | go_big_quiet_skip | (go_big_quiet_want; refine Hp.quiet_val _ (fun W hW => by have F := Hp.Sh.facts hW; have hd := Hp.Sh.data hW; (try simp only [Hp.Facts, Hp.CellsAt, Nat.reduceAdd, List.cons_append, List.nil_append] at F); have hm := RegP.MemIs.cell hd; go_simp; rfl) ?_; (try simp only [Act.put, List.setIfInBounds_toArray, List.set_cons_zero, List.set_cons_succ]); go_big_quiet_on) | (go_big_quiet_want; refine Hp.quiet_val _ (fun W hW => by have F := Hp.Sh.facts hW; have hd := Hp.Sh.data hW; (try simp only [Hp.Facts, Hp.CellsAt, Nat.reduceAdd, List.cons_append, List.nil_append] at F); have hm := RegP.MemIs.cell hd; go_simp) ?_; (try simp only [Act.put, List.setIfInBounds_toArray, List.set_cons_zero, List.set_cons_succ]); go_big_quiet_on))
      (first | go_big_quiet_skip | (go_big_quiet_want; go_big_quiet_op; first | go_big_quiet_on | (refine ⟨_, fun _ _ => rfl, ?_⟩; go_big_quiet_on)))
      (first | go_big_quiet_skip | (go_big_quiet_want; go_big_quiet_op; first | go_big_quiet_on | (refine ⟨_, fun _ _ => rfl, ?_⟩; go_big_quiet_on)))
      (first | go_big_quiet_skip | (go_big_quiet_want; refine Hp.quiet_val _ (fun W hW => by have F := Hp.Sh.facts hW; have hd := Hp.Sh.data hW; (try simp only [Hp.Facts, Hp.CellsAt, Nat.reduceAdd, List.cons_append, List.nil_append] at F); have hm := RegP.MemIs.cell hd; go_simp; rfl) ?_; (try simp only [Act.put, List.setIfInBounds_toArray, List.set_cons_zero, List.set_cons_succ]); go_big_quiet_on) | (go_big_quiet_want; refine Hp.quiet_val _ (fun W hW => by have F := Hp.Sh.facts hW; have hd := Hp.Sh.data hW; (try simp only [Hp.Facts, Hp.CellsAt, Nat.reduceAdd, List.cons_append, List.nil_append] at F); have hm := RegP.MemIs.cell hd; go_simp) ?_; (try simp only [Act.put, List.setIfInBounds_toArray, List.set_cons_zero, List.set_cons_succ]); go_big_quiet_on))
      (first | go_big_quiet_skip | (go_big_quiet_want; go_big_quiet_op; first | go_big_quiet_on | (refine ⟨_, fun _ _ => rfl, ?_⟩; go_big_quiet_on)))
      (first | go_big_quiet_skip | (go_big_quiet_want; go_big_quiet_op; first | go_big_quiet_on | (refine ⟨_, fun _ _ => rfl, ?_⟩; go_big_quiet_on)))
      (first | go_big_quiet_skip | (go_big_quiet_want; go_big_quiet_op; first | go_big_quiet_on | (refine ⟨_, fun _ _ => rfl, ?_⟩; go_big_quiet_on)))
      (first | go_big_quiet_skip | (go_big_quiet_want; go_big_quiet_op; first | go_big_quiet_on | (refine ⟨_, fun _ _ => rfl, ?_⟩; go_big_quiet_on)))
      refine wpQuiet_nil ?_; intro w1 sh; have F := sh.facts; (try simp only [Hp.Facts, Hp.CellsAt, Nat.reduceAdd, List.cons_append, List.nil_append] at F)
      go_wp2_with (first
          | ((with_reducible refine Hp.wpl_box sh ?_ ?_); exact rfl; clear sh; (try clear F); go_simp; intro b w1 sh; have F := sh.facts; (try simp only [Hp.Facts, Hp.CellsAt, Nat.reduceAdd, List.cons_append, List.nil_append] at F))
          | ((with_reducible refine Hp.atl_store ?_ ?_); exact rfl; (first | refine Hp.wp_store 0 sh rfl rfl rfl rfl (by kernel_rfl) (Nat.le_of_ble_eq_true rfl) rfl ?_ | refine Hp.wp_store 1 sh rfl rfl rfl rfl (by kernel_rfl) (Nat.le_of_ble_eq_true rfl) rfl ?_ | refine Hp.wp_store 2 sh rfl rfl rfl rfl (by kernel_rfl) (Nat.le_of_ble_eq_true rfl) rfl ?_ | refine Hp.wp_store 3 sh rfl rfl rfl rfl (by kernel_rfl) (Nat.le_of_ble_eq_true rfl) rfl ?_ | refine Hp.wp_store 4 sh rfl rfl rfl rfl (by kernel_rfl) (Nat.le_of_ble_eq_true rfl) rfl ?_ | refine Hp.wp_store 5 sh rfl rfl rfl rfl (by kernel_rfl) (Nat.le_of_ble_eq_true rfl) rfl ?_ | refine Hp.wp_store 6 sh rfl rfl rfl rfl (by kernel_rfl) (Nat.le_of_ble_eq_true rfl) rfl ?_); clear sh; (try clear F); go_simp; intro w1 sh; have F := sh.facts; (try simp only [Hp.Facts, Hp.CellsAt, Nat.reduceAdd, List.cons_append, List.nil_append] at F))
          | fail)
      go_ret
      exact ⟨rfl, sh.below⟩
  · have d1 : decide (0 ≤ b) = false := decide_eq_false h1
    rw [show RegP.oc n b z = false from decide_eq_false (fun h => h1 h.1)]
    go_enter Try.func44, Try.ntmps44
    have tok_bp : True := trivial
    go_wp2_with (first
        | ((have tok := tok_bp); clear tok tok_bp; (first | (with_reducible refine Hp.wpl_box sh ?_ ?_)); exact rfl; clear sh; (try clear F); go_simp; intro bp w1 sh; have F := sh.facts; (try simp only [Hp.Facts, Hp.CellsAt, Nat.reduceAdd, List.cons_append, List.nil_append] at F))
        | ((with_reducible refine Hp.wpl_box sh ?_ ?_); exact rfl; clear sh; (try clear F); go_simp; intro b w1 sh; have F := sh.facts; (try simp only [Hp.Facts, Hp.CellsAt, Nat.reduceAdd, List.cons_append, List.nil_append] at F))
        | ((with_reducible refine Hp.atl_store ?_ ?_); exact rfl; (first | refine Hp.wp_store 0 sh rfl rfl rfl rfl (by kernel_rfl) (Nat.le_of_ble_eq_true rfl) rfl ?_ | refine Hp.wp_store 1 sh rfl rfl rfl rfl (by kernel_rfl) (Nat.le_of_ble_eq_true rfl) rfl ?_ | refine Hp.wp_store 2 sh rfl rfl rfl rfl (by kernel_rfl) (Nat.le_of_ble_eq_true rfl) rfl ?_ | refine Hp.wp_store 3 sh rfl rfl rfl rfl (by kernel_rfl) (Nat.le_of_ble_eq_true rfl) rfl ?_ | refine Hp.wp_store 4 sh rfl rfl rfl rfl (by kernel_rfl) (Nat.le_of_ble_eq_true rfl) rfl ?_ | refine Hp.wp_store 5 sh rfl rfl rfl rfl (by kernel_rfl) (Nat.le_of_ble_eq_true rfl) rfl ?_ | refine Hp.wp_store 6 sh rfl rfl rfl rfl (by kernel_rfl) (Nat.le_of_ble_eq_true rfl) rfl ?_); clear sh; (try clear F); go_simp; intro w1 sh; have F := sh.facts; (try simp only [Hp.Facts, Hp.CellsAt, Nat.reduceAdd, List.cons_append, List.nil_append] at F))
        | fail)
    refine wp_region_quiet (C := Hp.Cls _ _ _) (by kernel_rfl) (by kernel_rfl) sh.drew ?_; clear sh; (try clear F)
    (try simp only [])
    (first | go_big_quiet_skip | (go_big_quiet_want; go_big_quiet_op; first | go_big_quiet_on | (refine ⟨_, fun _ _ => rfl, ?_⟩; go_big_quiet_on)))
    (first | go_big_quiet_skip | (go_big_quiet_want; refine Hp.quiet_val _ (fun W hW => by have F := Hp.Sh.facts hW; have hd := Hp.Sh.data hW; (try simp only [Hp.Facts, Hp.CellsAt, Nat.reduceAdd, List.cons_append, List.nil_append] at F); have hm := RegP.MemIs.cell hd; go_simp; rfl) ?_; (try simp only [Act.put, List.setIfInBounds_toArray, List.set_cons_zero, List.set_cons_succ]); go_big_quiet_on) | (go_big_quiet_want; refine Hp.quiet_val _ (fun W hW => by have F := Hp.Sh.facts hW; have hd := Hp.Sh.data hW; (try simp only [Hp.Facts, Hp.CellsAt, Nat.reduceAdd, List.cons_append, List.nil_append] at F); have hm := RegP.MemIs.cell hd; go_simp) ?_; (try simp only [Act.put, List.setIfInBounds_toArray, List.set_cons_zero, List.set_cons_succ]); go_big_quiet_on))
    (first | go_big_quiet_skip | (go_big_quiet_want; go_big_quiet_op; first | go_big_quiet_on | (refine ⟨_, fun _ _ => rfl, ?_⟩; go_big_quiet_on)))
    (first | go_big_quiet_skip | (go_big_quiet_want; go_big_quiet_op; first | go_big_quiet_on | (refine ⟨_, fun _ _ => rfl, ?_⟩; go_big_quiet_on)))
    (first | go_big_quiet_skip | (go_big_quiet_want; go_big_quiet_op; first | go_big_quiet_on | (refine ⟨_, fun _ _ => rfl, ?_⟩; go_big_quiet_on)))
    (first | go_big_quiet_skip | (go_big_quiet_want; refine Hp.quiet_val _ (fun W hW => by have F := Hp.Sh.facts hW; have hd := Hp.Sh.data hW; (try simp only [Hp.Facts, Hp.CellsAt, Nat.reduceAdd, List.cons_append, List.nil_append] at F); have hm := RegP.MemIs.cell hd; go_simp; rfl) ?_; (try simp only [Act.put, List.setIfInBounds_toArray, List.set_cons_zero, List.set_cons_succ]); go_big_quiet_on) | (go_big_quiet_want; refine Hp.quiet_val _ (fun W hW => by have F := Hp.Sh.facts hW; have hd := Hp.Sh.data hW; (try simp only [Hp.Facts, Hp.CellsAt, Nat.reduceAdd, List.cons_append, List.nil_append] at F); have hm := RegP.MemIs.cell hd; go_simp) ?_; (try simp only [Act.put, List.setIfInBounds_toArray, List.set_cons_zero, List.set_cons_succ]); go_big_quiet_on))
    (first | go_big_quiet_skip | (go_big_quiet_want; go_big_quiet_op; first | go_big_quiet_on | (refine ⟨_, fun _ _ => rfl, ?_⟩; go_big_quiet_on)))
    (first | go_big_quiet_skip | (go_big_quiet_want; go_big_quiet_op; first | go_big_quiet_on | (refine ⟨_, fun _ _ => rfl, ?_⟩; go_big_quiet_on)))
    (first | go_big_quiet_skip | (go_big_quiet_want; go_big_quiet_op; first | go_big_quiet_on | (refine ⟨_, fun _ _ => rfl, ?_⟩; go_big_quiet_on)))
    (first | go_big_quiet_skip | (go_big_quiet_want; go_big_quiet_op; first | go_big_quiet_on | (refine ⟨_, fun _ _ => rfl, ?_⟩; go_big_quiet_on)))
    (first | go_big_quiet_skip | (go_big_quiet_want; refine Hp.quiet_val _ (fun W hW => by have F := Hp.Sh.facts hW; have hd := Hp.Sh.data hW; (try simp only [Hp.Facts, Hp.CellsAt, Nat.reduceAdd, List.cons_append, List.nil_append] at F); have hm := RegP.MemIs.cell hd; go_simp; rfl) ?_; (try simp only [Act.put, List.setIfInBounds_toArray, List.set_cons_zero, List.set_cons_succ]); go_big_quiet_on) | (go_big_quiet_want; refine Hp.quiet_val _ (fun W hW => by have F := Hp.Sh.facts hW; have hd := Hp.Sh.data hW; (try simp only [Hp.Facts, Hp.CellsAt, Nat.reduceAdd, List.cons_append, List.nil_append] at F); have hm := RegP.MemIs.cell hd; go_simp) ?_; (try simp only [Act.put, List.setIfInBounds_toArray, List.set_cons_zero, List.set_cons_succ]); go_big_quiet_on))
    (first | go_big_quiet_skip | (go_big_quiet_want; go_big_quiet_op; first | go_big_quiet_on | (refine ⟨_, fun _ _ => rfl, ?_⟩; go_big_quiet_on)))
    (first | go_big_quiet_skip | (go_big_quiet_want; go_big_quiet_op; first | go_big_quiet_on | (refine ⟨_, fun _ _ => rfl, ?_⟩; go_big_quiet_on)))
    (first | go_big_quiet_skip | (go_big_quiet_want; go_big_quiet_op; first | go_big_quiet_on | (refine ⟨_, fun _ _ => rfl, ?_⟩; go_big_quiet_on)))
    (first | go_big_quiet_skip | (go_big_quiet_want; refine Hp.quiet_val _ (fun W hW => by have F := Hp.Sh.facts hW; have hd := Hp.Sh.data hW; (try simp only [Hp.Facts, Hp.CellsAt, Nat.reduceAdd, List.cons_append, List.nil_append] at F); have hm := RegP.MemIs.cell hd; go_simp; rfl) ?_; (try simp only [Act.put, List.setIfInBounds_toArray, List.set_cons_zero, List.set_cons_succ]); go_big_quiet_on) | (go_big_quiet_want; refine Hp.quiet_val _ (fun W hW => by have F := Hp.Sh.facts hW; have hd := Hp.Sh.data hW; (try simp only [Hp.Facts, Hp.CellsAt, Nat.reduceAdd, List.cons_append, List.nil_append] at F); have hm := RegP.MemIs.cell hd; go_simp) ?_; (try simp only [Act.put, List.setIfInBounds_toArray, List.set_cons_zero, List.set_cons_succ]); go_big_quiet_on))
    (first | go_big_quiet_skip | (go_big_quiet_want; go_big_quiet_op; first | go_big_quiet_on | (refine ⟨_, fun _ _ => rfl, ?_⟩; go_big_quiet_on)))
    (first | go_big_quiet_skip | (go_big_quiet_want; go_big_quiet_op; first | go_big_quiet_on | (refine ⟨_, fun _ _ => rfl, ?_⟩; go_big_quiet_on)))
    (first | go_big_quiet_skip | (go_big_quiet_want; go_big_quiet_op; first | go_big_quiet_on | (refine ⟨_, fun _ _ => rfl, ?_⟩; go_big_quiet_on)))
    (first | go_big_quiet_skip | (go_big_quiet_want; go_big_quiet_op; first | go_big_quiet_on | (refine ⟨_, fun _ _ => rfl, ?_⟩; go_big_quiet_on)))
    (first | go_big_quiet_skip | (go_big_quiet_want; go_big_quiet_op; first | go_big_quiet_on | (refine ⟨_, fun _ _ => rfl, ?_⟩; go_big_quiet_on)))
    (first | go_big_quiet_skip | (go_big_quiet_want; refine Hp.quiet_val _ (fun W hW => by have F := Hp.Sh.facts hW; have hd := Hp.Sh.data hW; (try simp only [Hp.Facts, Hp.CellsAt, Nat.reduceAdd, List.cons_append, List.nil_append] at F); have hm := RegP.MemIs.cell hd; go_simp; rfl) ?_; (try simp only [Act.put, List.setIfInBounds_toArray, List.set_cons_zero, List.set_cons_succ]); go_big_quiet_on) | (go_big_quiet_want; refine Hp.quiet_val _ (fun W hW => by have F := Hp.Sh.facts hW; have hd := Hp.Sh.data hW; (try simp only [Hp.Facts, Hp.CellsAt, Nat.reduceAdd, List.cons_append, List.nil_append] at F); have hm := RegP.MemIs.cell hd; go_simp) ?_; (try simp only [Act.put, List.setIfInBounds_toArray, List.set_cons_zero, List.set_cons_succ]); go_big_quiet_on))
    (first | go_big_quiet_skip | (go_big_quiet_want; go_big_quiet_op; first | go_big_quiet_on | (refine ⟨_, fun _ _ => rfl, ?_⟩; go_big_quiet_on)))
    (first | go_big_quiet_skip | (go_big_quiet_want; go_big_quiet_op; first | go_big_quiet_on | (refine ⟨_, fun _ _ => rfl, ?_⟩; go_big_quiet_on)))
    (first | go_big_quiet_skip | (go_big_quiet_want; go_big_quiet_op; first | go_big_quiet_on | (refine ⟨_, fun _ _ => rfl, ?_⟩; go_big_quiet_on)))
    (first | go_big_quiet_skip | (go_big_quiet_want; refine Hp.quiet_val _ (fun W hW => by have F := Hp.Sh.facts hW; have hd := Hp.Sh.data hW; (try simp only [Hp.Facts, Hp.CellsAt, Nat.reduceAdd, List.cons_append, List.nil_append] at F); have hm := RegP.MemIs.cell hd; go_simp; rfl) ?_; (try simp only [Act.put, List.setIfInBounds_toArray, List.set_cons_zero, List.set_cons_succ]); go_big_quiet_on) | (go_big_quiet_want; refine Hp.quiet_val _ (fun W hW => by have F := Hp.Sh.facts hW; have hd := Hp.Sh.data hW; (try simp only [Hp.Facts, Hp.CellsAt, Nat.reduceAdd, List.cons_append, List.nil_append] at F); have hm := RegP.MemIs.cell hd; go_simp) ?_; (try simp only [Act.put, List.setIfInBounds_toArray, List.set_cons_zero, List.set_cons_succ]); go_big_quiet_on))
    (first | go_big_quiet_skip | (go_big_quiet_want; go_big_quiet_op; first | go_big_quiet_on | (refine ⟨_, fun _ _ => rfl, ?_⟩; go_big_quiet_on)))
    (first | go_big_quiet_skip | (go_big_quiet_want; go_big_quiet_op; first | go_big_quiet_on | (refine ⟨_, fun _ _ => rfl, ?_⟩; go_big_quiet_on)))
    (first | go_big_quiet_skip | (go_big_quiet_want; refine Hp.quiet_val _ (fun W hW => by have F := Hp.Sh.facts hW; have hd := Hp.Sh.data hW; (try simp only [Hp.Facts, Hp.CellsAt, Nat.reduceAdd, List.cons_append, List.nil_append] at F); have hm := RegP.MemIs.cell hd; go_simp; rfl) ?_; (try simp only [Act.put, List.setIfInBounds_toArray, List.set_cons_zero, List.set_cons_succ]); go_big_quiet_on) | (go_big_quiet_want; refine Hp.quiet_val _ (fun W hW => by have F := Hp.Sh.facts hW; have hd := Hp.Sh.data hW; (try simp only [Hp.Facts, Hp.CellsAt, Nat.reduceAdd, List.cons_append, List.nil_append] at F); have hm := RegP.MemIs.cell hd; go_simp) ?_; (try simp only [Act.put, List.setIfInBounds_toArray, List.set_cons_zero, List.set_cons_succ]); go_big_quiet_on))
    (first | go_big_quiet_skip | (go_big_quiet_want; go_big_quiet_op; first | go_big_quiet_on | (refine ⟨_, fun _ _ => rfl, ?_⟩; go_big_quiet_on)))
    (first | go_big_quiet_skip | (go_big_quiet_want; go_big_quiet_op; first | go_big_quiet_on | (refine ⟨_, fun _ _ => rfl, ?_⟩; go_big_quiet_on)))
    (first | go_big_quiet_skip | (go_big_quiet_want; go_big_quiet_op; first | go_big_quiet_on | (refine ⟨_, fun _ _ => rfl, ?_⟩; go_big_quiet_on)))
    (first | go_big_quiet_skip | (go_big_quiet_want; go_big_quiet_op; first | go_big_quiet_on | (refine ⟨_, fun _ _ => rfl, ?_⟩; go_big_quiet_on)))
    refine wpQuiet_nil ?_; intro w1 sh; have F := sh.facts; (try simp only [Hp.Facts, Hp.CellsAt, Nat.reduceAdd, List.cons_append, List.nil_append] at F)
    go_wp2_with (first
        | ((with_reducible refine Hp.wpl_box sh ?_ ?_); exact rfl; clear sh; (try clear F); go_simp; intro b w1 sh; have F := sh.facts; (try simp only [Hp.Facts, Hp.CellsAt, Nat.reduceAdd, List.cons_append, List.nil_append] at F))
        | ((with_reducible refine Hp.atl_store ?_ ?_); exact rfl; (first | refine Hp.wp_store 0 sh rfl rfl rfl rfl (by kernel_rfl) (Nat.le_of_ble_eq_true rfl) rfl ?_ | refine Hp.wp_store 1 sh rfl rfl rfl rfl (by kernel_rfl) (Nat.le_of_ble_eq_true rfl) rfl ?_ | refine Hp.wp_store 2 sh rfl rfl rfl rfl (by kernel_rfl) (Nat.le_of_ble_eq_true rfl) rfl ?_ | refine Hp.wp_store 3 sh rfl rfl rfl rfl (by kernel_rfl) (Nat.le_of_ble_eq_true rfl) rfl ?_ | refine Hp.wp_store 4 sh rfl rfl rfl rfl (by kernel_rfl) (Nat.le_of_ble_eq_true rfl) rfl ?_ | refine Hp.wp_store 5 sh rfl rfl rfl rfl (by kernel_rfl) (Nat.le_of_ble_eq_true rfl) rfl ?_ | refine Hp.wp_store 6 sh rfl rfl rfl rfl (by kernel_rfl) (Nat.le_of_ble_eq_true rfl) rfl ?_); clear sh; (try clear F); go_simp; intro w1 sh; have F := sh.facts; (try simp only [Hp.Facts, Hp.CellsAt, Nat.reduceAdd, List.cons_append, List.nil_append] at F))
        | fail)
    go_ret
    exact ⟨rfl, sh.below⟩

namespace RegP
theorem pc1_cases {n : Nat} {b z at' c : Int} (h : pc n b z at' 1 = c) (hc : c ≠ 0) : (oc n b z = false ∧ c = 1) ∨ (oc n b z = true ∧ c = 6 ∧ (at' < 0 ∨ (0 ≤ at' ∧ z ≤ at'))) := by
  rcases pc_cases h hc with h1 | ⟨h1, h2, h3⟩
  · exact .inl h1
  · exact .inr ⟨h1, h2, by omega⟩
end RegP

set_option maxHeartbeats 4000000 in set_option maxRecDepth 100000 in
theorem rrget (bm g n : Nat) (ws : List Int) (b z r : Int) (ks : Option Addr) (kn kc : Nat) (f ag : Int) (at' : Int) (w : World) (hn : n ≤ 1099511627776) (hb : -9223372036854775808 ≤ b ∧ b ≤ 9223372036854775807) (hz : -9223372036854775808 ≤ z ∧ z ≤ 9223372036854775807) (hat : -9223372036854775808 ≤ at' ∧ at' ≤ 9223372036854775807) (hM : RegP.MemIs bm g n w) (hws : ws.length = n) (hR : Hp.RdV w (some ⟨g, 0, none⟩) (ints ws)) :
    Calls Try.prog 42 #[.pointer (some ⟨bm, 0, none⟩), .agg #[.int .i64 b, .int .i64 z, .int .i64 r, .slice ks kn kc, .int .i64 f, .int .i64 ag], .int .i64 at'] w fun e w' => e = .returned (.tuple #[.int .u32 (RegP.getV n ws b z at'), .int .i64 (RegP.pc n b z at' 1)]) ∧ Below w.heap.size w w' := by
  have sh := Hp.Sh.start (hM.rob.and (RdV_rob hR))
  have HP := Lib.hid (fun W h => rrof bm g n b z r ks kn kc f ag W hn hb hz h)
  by_cases hp : RegP.pc n b z at' 1 = 0
  · obtain ⟨b, z, a, k, rfl, rfl, rfl, h1, h2, h3, h4⟩ := RegP.pc_zero hp
    rw [show RegP.oc n b z = true from decide_eq_true (by omega)] at HP
    have HC := Lib.hid (fun W (h : Hp.RdV W (some ⟨g, 0, none⟩) (ints ws)) => (by have := Hp.RdV.cell h (b + a) (ints_get (by omega)); rw [Hp.add_head] at this; exact this : W.cell? ⟨g, b + a, none⟩ = some (.int .u32 (ws[b + a]'(by omega)))))
    rw [hp, show RegP.getV n ws b z a = ws[b + a]'(by omega) by unfold RegP.getV; rw [if_pos hp, show ((b : Int) + (a : Int)).toNat = b + a by omega]; simp [show b + a < ws.length by omega]]
    generalize ws[b + a]'(by omega) = x at HC ⊢
    have hza : (a : Int) < (z : Int) := by omega
    have hw1 : IntKind.i64.wrap ((b : Int) + a) = (b : Int) + a := IntWalk.i64_in _ (by omega)
    have hw2 : (0 : Int) ≤ (b : Int) + a := by omega
    have hw3 : (b : Int) + a < (n : Int) := by omega
    have hw4 : ((b : Int) + (a : Int)).toNat = b + a := by omega
    clear hM hR hp h1 hws
    go_enter Try.func42, Try.ntmps42
    have tok_bp : True := trivial
    go_wp2_with (first
        | ((have tok := tok_bp); clear tok tok_bp; (first | (with_reducible refine Hp.wpl_box sh ?_ ?_)); exact rfl; clear sh; (try clear F); go_simp; intro bp w1 sh; have F := sh.facts; (try simp only [Hp.Facts, Hp.CellsAt, Nat.reduceAdd, List.cons_append, List.nil_append] at F))
        | ((with_reducible refine Hp.wpl_box sh ?_ ?_); exact rfl; clear sh; (try clear F); go_simp; intro b w1 sh; have F := sh.facts; (try simp only [Hp.Facts, Hp.CellsAt, Nat.reduceAdd, List.cons_append, List.nil_append] at F))
        | ((with_reducible refine Hp.atl_store ?_ ?_); exact rfl; (first | refine Hp.wp_store 0 sh rfl rfl rfl rfl (by kernel_rfl) (Nat.le_of_ble_eq_true rfl) rfl ?_ | refine Hp.wp_store 1 sh rfl rfl rfl rfl (by kernel_rfl) (Nat.le_of_ble_eq_true rfl) rfl ?_ | refine Hp.wp_store 2 sh rfl rfl rfl rfl (by kernel_rfl) (Nat.le_of_ble_eq_true rfl) rfl ?_ | refine Hp.wp_store 3 sh rfl rfl rfl rfl (by kernel_rfl) (Nat.le_of_ble_eq_true rfl) rfl ?_ | refine Hp.wp_store 4 sh rfl rfl rfl rfl (by kernel_rfl) (Nat.le_of_ble_eq_true rfl) rfl ?_ | refine Hp.wp_store 5 sh rfl rfl rfl rfl (by kernel_rfl) (Nat.le_of_ble_eq_true rfl) rfl ?_ | refine Hp.wp_store 6 sh rfl rfl rfl rfl (by kernel_rfl) (Nat.le_of_ble_eq_true rfl) rfl ?_); clear sh; (try clear F); go_simp; intro w1 sh; have F := sh.facts; (try simp only [Hp.Facts, Hp.CellsAt, Nat.reduceAdd, List.cons_append, List.nil_append] at F))
        | fail)
    go_fit (HP.out _ sh.data.1)
    rintro e w1 ⟨rfl, hb⟩
    replace sh := sh.call hb; clear hb; (try clear F); have F := sh.facts; (try simp only [Hp.Facts, Hp.CellsAt, Nat.reduceAdd, List.cons_append, List.nil_append] at F)
    go_wp2_with (first
        | ((with_reducible refine Hp.wpl_box sh ?_ ?_); exact rfl; clear sh; (try clear F); go_simp; intro b w1 sh; have F := sh.facts; (try simp only [Hp.Facts, Hp.CellsAt, Nat.reduceAdd, List.cons_append, List.nil_append] at F))
        | ((with_reducible refine Hp.atl_store ?_ ?_); exact rfl; (first | refine Hp.wp_store 0 sh rfl rfl rfl rfl (by kernel_rfl) (Nat.le_of_ble_eq_true rfl) rfl ?_ | refine Hp.wp_store 1 sh rfl rfl rfl rfl (by kernel_rfl) (Nat.le_of_ble_eq_true rfl) rfl ?_ | refine Hp.wp_store 2 sh rfl rfl rfl rfl (by kernel_rfl) (Nat.le_of_ble_eq_true rfl) rfl ?_ | refine Hp.wp_store 3 sh rfl rfl rfl rfl (by kernel_rfl) (Nat.le_of_ble_eq_true rfl) rfl ?_ | refine Hp.wp_store 4 sh rfl rfl rfl rfl (by kernel_rfl) (Nat.le_of_ble_eq_true rfl) rfl ?_ | refine Hp.wp_store 5 sh rfl rfl rfl rfl (by kernel_rfl) (Nat.le_of_ble_eq_true rfl) rfl ?_ | refine Hp.wp_store 6 sh rfl rfl rfl rfl (by kernel_rfl) (Nat.le_of_ble_eq_true rfl) rfl ?_); clear sh; (try clear F); go_simp; intro w1 sh; have F := sh.facts; (try simp only [Hp.Facts, Hp.CellsAt, Nat.reduceAdd, List.cons_append, List.nil_append] at F))
        | fail)
    refine wp_region_quiet (C := Hp.Cls _ _ _) (by kernel_rfl) (by kernel_rfl) sh.drew ?_; clear sh; (try clear F)
    (try simp only [])
    (first | go_big_quiet_skip | (go_big_quiet_want; go_big_quiet_op; first | go_big_quiet_on | (refine ⟨_, fun _ _ => rfl, ?_⟩; go_big_quiet_on)))
    (first | go_big_quiet_skip | (go_big_quiet_want; go_big_quiet_op; first | go_big_quiet_on | (refine ⟨_, fun _ _ => rfl, ?_⟩; go_big_quiet_on)))
    (first | go_big_quiet_skip | (go_big_quiet_want; go_big_quiet_op; first | go_big_quiet_on | (refine ⟨_, fun _ _ => rfl, ?_⟩; go_big_quiet_on)))
    (first | go_big_quiet_skip | (go_big_quiet_want; refine Hp.quiet_val _ (fun W hW => by have F := Hp.Sh.facts hW; have hd := Hp.Sh.data hW; (try simp only [Hp.Facts, Hp.CellsAt, Nat.reduceAdd, List.cons_append, List.nil_append] at F); have hm := RegP.MemIs.cell hd.1; have hc := HC.out _ hd.2; go_simp; rfl) ?_; (try simp only [Act.put, List.setIfInBounds_toArray, List.set_cons_zero, List.set_cons_succ]); go_big_quiet_on) | (go_big_quiet_want; refine Hp.quiet_val _ (fun W hW => by have F := Hp.Sh.facts hW; have hd := Hp.Sh.data hW; (try simp only [Hp.Facts, Hp.CellsAt, Nat.reduceAdd, List.cons_append, List.nil_append] at F); have hm := RegP.MemIs.cell hd.1; have hc := HC.out _ hd.2; go_simp) ?_; (try simp only [Act.put, List.setIfInBounds_toArray, List.set_cons_zero, List.set_cons_succ]); go_big_quiet_on))
    (first | go_big_quiet_skip | (go_big_quiet_want; go_big_quiet_op; first | go_big_quiet_on | (refine ⟨_, fun _ _ => rfl, ?_⟩; go_big_quiet_on)))
    (first | go_big_quiet_skip | (go_big_quiet_want; refine Hp.quiet_val _ (fun W hW => by have F := Hp.Sh.facts hW; have hd := Hp.Sh.data hW; (try simp only [Hp.Facts, Hp.CellsAt, Nat.reduceAdd, List.cons_append, List.nil_append] at F); have hm := RegP.MemIs.cell hd.1; have hc := HC.out _ hd.2; go_simp; rfl) ?_; (try simp only [Act.put, List.setIfInBounds_toArray, List.set_cons_zero, List.set_cons_succ]); go_big_quiet_on) | (go_big_quiet_want; refine Hp.quiet_val _ (fun W hW => by have F := Hp.Sh.facts hW; have hd := Hp.Sh.data hW; (try simp only [Hp.Facts, Hp.CellsAt, Nat.reduceAdd, List.cons_append, List.nil_append] at F); have hm := RegP.MemIs.cell hd.1; have hc := HC.out _ hd.2; go_simp) ?_; (try simp only [Act.put, List.setIfInBounds_toArray, List.set_cons_zero, List.set_cons_succ]); go_big_quiet_on))
    (first | go_big_quiet_skip | (go_big_quiet_want; go_big_quiet_op; first | go_big_quiet_on | (refine ⟨_, fun _ _ => rfl, ?_⟩; go_big_quiet_on)))
    (first | go_big_quiet_skip | (go_big_quiet_want; go_big_quiet_op; first | go_big_quiet_on | (refine ⟨_, fun _ _ => rfl, ?_⟩; go_big_quiet_on)))
    (first | go_big_quiet_skip | (go_big_quiet_want; go_big_quiet_op; first | go_big_quiet_on | (refine ⟨_, fun _ _ => rfl, ?_⟩; go_big_quiet_on)))
    (first | go_big_quiet_skip | (go_big_quiet_want; refine Hp.quiet_val _ (fun W hW => by have F := Hp.Sh.facts hW; have hd := Hp.Sh.data hW; (try simp only [Hp.Facts, Hp.CellsAt, Nat.reduceAdd, List.cons_append, List.nil_append] at F); have hm := RegP.MemIs.cell hd.1; have hc := HC.out _ hd.2; go_simp; rfl) ?_; (try simp only [Act.put, List.setIfInBounds_toArray, List.set_cons_zero, List.set_cons_succ]); go_big_quiet_on) | (go_big_quiet_want; refine Hp.quiet_val _ (fun W hW => by have F := Hp.Sh.facts hW; have hd := Hp.Sh.data hW; (try simp only [Hp.Facts, Hp.CellsAt, Nat.reduceAdd, List.cons_append, List.nil_append] at F); have hm := RegP.MemIs.cell hd.1; have hc := HC.out _ hd.2; go_simp) ?_; (try simp only [Act.put, List.setIfInBounds_toArray, List.set_cons_zero, List.set_cons_succ]); go_big_quiet_on))
    (first | go_big_quiet_skip | (go_big_quiet_want; go_big_quiet_op; first | go_big_quiet_on | (refine ⟨_, fun _ _ => rfl, ?_⟩; go_big_quiet_on)))
    (first | go_big_quiet_skip | (go_big_quiet_want; go_big_quiet_op; first | go_big_quiet_on | (refine ⟨_, fun _ _ => rfl, ?_⟩; go_big_quiet_on)))
    refine wpQuiet_nil ?_; intro w1 sh; have F := sh.facts; (try simp only [Hp.Facts, Hp.CellsAt, Nat.reduceAdd, List.cons_append, List.nil_append] at F)
    go_wp2_with (first
        | ((with_reducible refine Hp.wpl_box sh ?_ ?_); exact rfl; clear sh; (try clear F); go_simp; intro b w1 sh; have F := sh.facts; (try simp only [Hp.Facts, Hp.CellsAt, Nat.reduceAdd, List.cons_append, List.nil_append] at F))
        | ((with_reducible refine Hp.atl_store ?_ ?_); exact rfl; (first | refine Hp.wp_store 0 sh rfl rfl rfl rfl (by kernel_rfl) (Nat.le_of_ble_eq_true rfl) rfl ?_ | refine Hp.wp_store 1 sh rfl rfl rfl rfl (by kernel_rfl) (Nat.le_of_ble_eq_true rfl) rfl ?_ | refine Hp.wp_store 2 sh rfl rfl rfl rfl (by kernel_rfl) (Nat.le_of_ble_eq_true rfl) rfl ?_ | refine Hp.wp_store 3 sh rfl rfl rfl rfl (by kernel_rfl) (Nat.le_of_ble_eq_true rfl) rfl ?_ | refine Hp.wp_store 4 sh rfl rfl rfl rfl (by kernel_rfl) (Nat.le_of_ble_eq_true rfl) rfl ?_ | refine Hp.wp_store 5 sh rfl rfl rfl rfl (by kernel_rfl) (Nat.le_of_ble_eq_true rfl) rfl ?_ | refine Hp.wp_store 6 sh rfl rfl rfl rfl (by kernel_rfl) (Nat.le_of_ble_eq_true rfl) rfl ?_); clear sh; (try clear F); go_simp; intro w1 sh; have F := sh.facts; (try simp only [Hp.Facts, Hp.CellsAt, Nat.reduceAdd, List.cons_append, List.nil_append] at F))
        | fail)
    go_ret2
    exact ⟨rfl, sh.below⟩
  · rw [show RegP.getV n ws b z at' = 0 by unfold RegP.getV; rw [if_neg hp]]
    obtain ⟨c, hc⟩ : ∃ c, RegP.pc n b z at' 1 = c := ⟨_, rfl⟩
    rw [hc] at hp ⊢
    rcases RegP.pc1_cases hc hp with ⟨ho, rfl⟩ | ⟨ho, rfl, hx⟩
    · rw [ho] at HP
      clear hM hR hp hc ho
      go_enter Try.func42, Try.ntmps42
      have tok_bp : True := trivial
      go_wp2_with (first
          | ((have tok := tok_bp); clear tok tok_bp; (first | (with_reducible refine Hp.wpl_box sh ?_ ?_)); exact rfl; clear sh; (try clear F); go_simp; intro bp w1 sh; have F := sh.facts; (try simp only [Hp.Facts, Hp.CellsAt, Nat.reduceAdd, List.cons_append, List.nil_append] at F))
          | ((with_reducible refine Hp.wpl_box sh ?_ ?_); exact rfl; clear sh; (try clear F); go_simp; intro b w1 sh; have F := sh.facts; (try simp only [Hp.Facts, Hp.CellsAt, Nat.reduceAdd, List.cons_append, List.nil_append] at F))
          | ((with_reducible refine Hp.atl_store ?_ ?_); exact rfl; (first | refine Hp.wp_store 0 sh rfl rfl rfl rfl (by kernel_rfl) (Nat.le_of_ble_eq_true rfl) rfl ?_ | refine Hp.wp_store 1 sh rfl rfl rfl rfl (by kernel_rfl) (Nat.le_of_ble_eq_true rfl) rfl ?_ | refine Hp.wp_store 2 sh rfl rfl rfl rfl (by kernel_rfl) (Nat.le_of_ble_eq_true rfl) rfl ?_ | refine Hp.wp_store 3 sh rfl rfl rfl rfl (by kernel_rfl) (Nat.le_of_ble_eq_true rfl) rfl ?_ | refine Hp.wp_store 4 sh rfl rfl rfl rfl (by kernel_rfl) (Nat.le_of_ble_eq_true rfl) rfl ?_ | refine Hp.wp_store 5 sh rfl rfl rfl rfl (by kernel_rfl) (Nat.le_of_ble_eq_true rfl) rfl ?_ | refine Hp.wp_store 6 sh rfl rfl rfl rfl (by kernel_rfl) (Nat.le_of_ble_eq_true rfl) rfl ?_); clear sh; (try clear F); go_simp; intro w1 sh; have F := sh.facts; (try simp only [Hp.Facts, Hp.CellsAt, Nat.reduceAdd, List.cons_append, List.nil_append] at F))
          | fail)
      go_fit (HP.out _ sh.data.1)
      rintro e w1 ⟨rfl, hb⟩
      replace sh := sh.call hb; clear hb; (try clear F); have F := sh.facts; (try simp only [Hp.Facts, Hp.CellsAt, Nat.reduceAdd, List.cons_append, List.nil_append] at F)
      go_wp2_with (first
          | ((with_reducible refine Hp.wpl_box sh ?_ ?_); exact rfl; clear sh; (try clear F); go_simp; intro b w1 sh; have F := sh.facts; (try simp only [Hp.Facts, Hp.CellsAt, Nat.reduceAdd, List.cons_append, List.nil_append] at F))
          | ((with_reducible refine Hp.atl_store ?_ ?_); exact rfl; (first | refine Hp.wp_store 0 sh rfl rfl rfl rfl (by kernel_rfl) (Nat.le_of_ble_eq_true rfl) rfl ?_ | refine Hp.wp_store 1 sh rfl rfl rfl rfl (by kernel_rfl) (Nat.le_of_ble_eq_true rfl) rfl ?_ | refine Hp.wp_store 2 sh rfl rfl rfl rfl (by kernel_rfl) (Nat.le_of_ble_eq_true rfl) rfl ?_ | refine Hp.wp_store 3 sh rfl rfl rfl rfl (by kernel_rfl) (Nat.le_of_ble_eq_true rfl) rfl ?_ | refine Hp.wp_store 4 sh rfl rfl rfl rfl (by kernel_rfl) (Nat.le_of_ble_eq_true rfl) rfl ?_ | refine Hp.wp_store 5 sh rfl rfl rfl rfl (by kernel_rfl) (Nat.le_of_ble_eq_true rfl) rfl ?_ | refine Hp.wp_store 6 sh rfl rfl rfl rfl (by kernel_rfl) (Nat.le_of_ble_eq_true rfl) rfl ?_); clear sh; (try clear F); go_simp; intro w1 sh; have F := sh.facts; (try simp only [Hp.Facts, Hp.CellsAt, Nat.reduceAdd, List.cons_append, List.nil_append] at F))
          | fail)
      go_ret2
      exact ⟨rfl, sh.below⟩
    · rw [ho] at HP
      clear hM hR hp hc ho
      rcases hx with hx | ⟨hx, hx2⟩
      · go_enter Try.func42, Try.ntmps42
        have tok_bp : True := trivial
        go_wp2_with (first
            | ((have tok := tok_bp); clear tok tok_bp; (first | (with_reducible refine Hp.wpl_box sh ?_ ?_)); exact rfl; clear sh; (try clear F); go_simp; intro bp w1 sh; have F := sh.facts; (try simp only [Hp.Facts, Hp.CellsAt, Nat.reduceAdd, List.cons_append, List.nil_append] at F))
            | ((with_reducible refine Hp.wpl_box sh ?_ ?_); exact rfl; clear sh; (try clear F); go_simp; intro b w1 sh; have F := sh.facts; (try simp only [Hp.Facts, Hp.CellsAt, Nat.reduceAdd, List.cons_append, List.nil_append] at F))
            | ((with_reducible refine Hp.atl_store ?_ ?_); exact rfl; (first | refine Hp.wp_store 0 sh rfl rfl rfl rfl (by kernel_rfl) (Nat.le_of_ble_eq_true rfl) rfl ?_ | refine Hp.wp_store 1 sh rfl rfl rfl rfl (by kernel_rfl) (Nat.le_of_ble_eq_true rfl) rfl ?_ | refine Hp.wp_store 2 sh rfl rfl rfl rfl (by kernel_rfl) (Nat.le_of_ble_eq_true rfl) rfl ?_ | refine Hp.wp_store 3 sh rfl rfl rfl rfl (by kernel_rfl) (Nat.le_of_ble_eq_true rfl) rfl ?_ | refine Hp.wp_store 4 sh rfl rfl rfl rfl (by kernel_rfl) (Nat.le_of_ble_eq_true rfl) rfl ?_ | refine Hp.wp_store 5 sh rfl rfl rfl rfl (by kernel_rfl) (Nat.le_of_ble_eq_true rfl) rfl ?_ | refine Hp.wp_store 6 sh rfl rfl rfl rfl (by kernel_rfl) (Nat.le_of_ble_eq_true rfl) rfl ?_); clear sh; (try clear F); go_simp; intro w1 sh; have F := sh.facts; (try simp only [Hp.Facts, Hp.CellsAt, Nat.reduceAdd, List.cons_append, List.nil_append] at F))
            | fail)
        go_fit (HP.out _ sh.data.1)
        rintro e w1 ⟨rfl, hb⟩
        replace sh := sh.call hb; clear hb; (try clear F); have F := sh.facts; (try simp only [Hp.Facts, Hp.CellsAt, Nat.reduceAdd, List.cons_append, List.nil_append] at F)
        go_wp2_with (first
            | ((with_reducible refine Hp.wpl_box sh ?_ ?_); exact rfl; clear sh; (try clear F); go_simp; intro b w1 sh; have F := sh.facts; (try simp only [Hp.Facts, Hp.CellsAt, Nat.reduceAdd, List.cons_append, List.nil_append] at F))
            | ((with_reducible refine Hp.atl_store ?_ ?_); exact rfl; (first | refine Hp.wp_store 0 sh rfl rfl rfl rfl (by kernel_rfl) (Nat.le_of_ble_eq_true rfl) rfl ?_ | refine Hp.wp_store 1 sh rfl rfl rfl rfl (by kernel_rfl) (Nat.le_of_ble_eq_true rfl) rfl ?_ | refine Hp.wp_store 2 sh rfl rfl rfl rfl (by kernel_rfl) (Nat.le_of_ble_eq_true rfl) rfl ?_ | refine Hp.wp_store 3 sh rfl rfl rfl rfl (by kernel_rfl) (Nat.le_of_ble_eq_true rfl) rfl ?_ | refine Hp.wp_store 4 sh rfl rfl rfl rfl (by kernel_rfl) (Nat.le_of_ble_eq_true rfl) rfl ?_ | refine Hp.wp_store 5 sh rfl rfl rfl rfl (by kernel_rfl) (Nat.le_of_ble_eq_true rfl) rfl ?_ | refine Hp.wp_store 6 sh rfl rfl rfl rfl (by kernel_rfl) (Nat.le_of_ble_eq_true rfl) rfl ?_); clear sh; (try clear F); go_simp; intro w1 sh; have F := sh.facts; (try simp only [Hp.Facts, Hp.CellsAt, Nat.reduceAdd, List.cons_append, List.nil_append] at F))
            | fail)
        go_ret2
        exact ⟨rfl, sh.below⟩
      · go_enter Try.func42, Try.ntmps42
        have tok_bp : True := trivial
        go_wp2_with (first
            | ((have tok := tok_bp); clear tok tok_bp; (first | (with_reducible refine Hp.wpl_box sh ?_ ?_)); exact rfl; clear sh; (try clear F); go_simp; intro bp w1 sh; have F := sh.facts; (try simp only [Hp.Facts, Hp.CellsAt, Nat.reduceAdd, List.cons_append, List.nil_append] at F))
            | ((with_reducible refine Hp.wpl_box sh ?_ ?_); exact rfl; clear sh; (try clear F); go_simp; intro b w1 sh; have F := sh.facts; (try simp only [Hp.Facts, Hp.CellsAt, Nat.reduceAdd, List.cons_append, List.nil_append] at F))
            | ((with_reducible refine Hp.atl_store ?_ ?_); exact rfl; (first | refine Hp.wp_store 0 sh rfl rfl rfl rfl (by kernel_rfl) (Nat.le_of_ble_eq_true rfl) rfl ?_ | refine Hp.wp_store 1 sh rfl rfl rfl rfl (by kernel_rfl) (Nat.le_of_ble_eq_true rfl) rfl ?_ | refine Hp.wp_store 2 sh rfl rfl rfl rfl (by kernel_rfl) (Nat.le_of_ble_eq_true rfl) rfl ?_ | refine Hp.wp_store 3 sh rfl rfl rfl rfl (by kernel_rfl) (Nat.le_of_ble_eq_true rfl) rfl ?_ | refine Hp.wp_store 4 sh rfl rfl rfl rfl (by kernel_rfl) (Nat.le_of_ble_eq_true rfl) rfl ?_ | refine Hp.wp_store 5 sh rfl rfl rfl rfl (by kernel_rfl) (Nat.le_of_ble_eq_true rfl) rfl ?_ | refine Hp.wp_store 6 sh rfl rfl rfl rfl (by kernel_rfl) (Nat.le_of_ble_eq_true rfl) rfl ?_); clear sh; (try clear F); go_simp; intro w1 sh; have F := sh.facts; (try simp only [Hp.Facts, Hp.CellsAt, Nat.reduceAdd, List.cons_append, List.nil_append] at F))
            | fail)
        go_fit (HP.out _ sh.data.1)
        rintro e w1 ⟨rfl, hb⟩
        replace sh := sh.call hb; clear hb; (try clear F); have F := sh.facts; (try simp only [Hp.Facts, Hp.CellsAt, Nat.reduceAdd, List.cons_append, List.nil_append] at F)
        go_wp2_with (first
            | ((with_reducible refine Hp.wpl_box sh ?_ ?_); exact rfl; clear sh; (try clear F); go_simp; intro b w1 sh; have F := sh.facts; (try simp only [Hp.Facts, Hp.CellsAt, Nat.reduceAdd, List.cons_append, List.nil_append] at F))
            | ((with_reducible refine Hp.atl_store ?_ ?_); exact rfl; (first | refine Hp.wp_store 0 sh rfl rfl rfl rfl (by kernel_rfl) (Nat.le_of_ble_eq_true rfl) rfl ?_ | refine Hp.wp_store 1 sh rfl rfl rfl rfl (by kernel_rfl) (Nat.le_of_ble_eq_true rfl) rfl ?_ | refine Hp.wp_store 2 sh rfl rfl rfl rfl (by kernel_rfl) (Nat.le_of_ble_eq_true rfl) rfl ?_ | refine Hp.wp_store 3 sh rfl rfl rfl rfl (by kernel_rfl) (Nat.le_of_ble_eq_true rfl) rfl ?_ | refine Hp.wp_store 4 sh rfl rfl rfl rfl (by kernel_rfl) (Nat.le_of_ble_eq_true rfl) rfl ?_ | refine Hp.wp_store 5 sh rfl rfl rfl rfl (by kernel_rfl) (Nat.le_of_ble_eq_true rfl) rfl ?_ | refine Hp.wp_store 6 sh rfl rfl rfl rfl (by kernel_rfl) (Nat.le_of_ble_eq_true rfl) rfl ?_); clear sh; (try clear F); go_simp; intro w1 sh; have F := sh.facts; (try simp only [Hp.Facts, Hp.CellsAt, Nat.reduceAdd, List.cons_append, List.nil_append] at F))
            | fail)
        go_ret2
        exact ⟨rfl, sh.below⟩

set_option maxHeartbeats 4000000 in set_option maxRecDepth 100000 in
theorem rrset (bm g n : Nat) (ws : List Int) (b z r : Int) (ks : Option Addr) (kn kc : Nat) (f ag : Int) (at' v : Int) (w0 w : World) (H : List Hp.Blk) (D : World → Prop) (sh : Hp.Sh w0 w ((g, (ints ws).toArray, 25) :: H) D) (hM : ∀ W, D W → RegP.MemIs bm g n W) (hn : n ≤ 1099511627776) (hws : ws.length = n) (hb : -9223372036854775808 ≤ b ∧ b ≤ 9223372036854775807) (hz : -9223372036854775808 ≤ z ∧ z ≤ 9223372036854775807) (hat : -9223372036854775808 ≤ at' ∧ at' ≤ 9223372036854775807) :
    Calls Try.prog 43 #[.pointer (some ⟨bm, 0, none⟩), .agg #[.int .i64 b, .int .i64 z, .int .i64 r, .slice ks kn kc, .int .i64 f, .int .i64 ag], .int .i64 at', .int .u32 v] w fun e w' => RegP.SetP g (RegP.pc n b z at' 1) (RegP.setW n ws b z at' v) w0 H D e w' := by
  have HP := Lib.hid (fun W h => rrof bm g n b z r ks kn kc f ag W hn hb hz h)
  have HM := Lib.hid hM
  by_cases hp : RegP.pc n b z at' 1 = 0
  · obtain ⟨b, z, a, k, rfl, rfl, rfl, h1, h2, h3, h4⟩ := RegP.pc_zero hp
    rw [show RegP.oc n b z = true from decide_eq_true (by omega)] at HP
    rw [hp, show RegP.setW n ws b z a v = ws.set (b + a) v by unfold RegP.setW; rw [if_pos hp, show ((b : Int) + (a : Int)).toNat = b + a by omega]]
    have HLT := Lib.hid (by rw [ints_length]; omega : b + a < (ints ws).length)
    have hza : (a : Int) < (z : Int) := by omega
    have hw1 : IntKind.i64.wrap ((b : Int) + a) = (b : Int) + a := IntWalk.i64_in _ (by omega)
    have hw2 : (0 : Int) ≤ (b : Int) + a := by omega
    have hw3 : (b : Int) + a < (n : Int) := by omega
    have hw4 : ((b : Int) + (a : Int)).toNat = b + a := by omega
    clear hM hp h1 hws
    go_enter Try.func43, Try.ntmps43
    have F := sh.facts; (try simp only [Hp.Facts, Hp.CellsAt, Nat.reduceAdd, List.cons_append, List.nil_append] at F)
    have tok_bp : True := trivial
    go_wp2_with (first
        | ((have tok := tok_bp); clear tok tok_bp; (first | (with_reducible refine Hp.wpl_box sh ?_ ?_)); exact rfl; clear sh; (try clear F); go_simp; intro bp w1 sh; have F := sh.facts; (try simp only [Hp.Facts, Hp.CellsAt, Nat.reduceAdd, List.cons_append, List.nil_append] at F))
        | ((with_reducible refine Hp.wpl_box sh ?_ ?_); exact rfl; clear sh; (try clear F); go_simp; intro b w1 sh; have F := sh.facts; (try simp only [Hp.Facts, Hp.CellsAt, Nat.reduceAdd, List.cons_append, List.nil_append] at F))
        | ((with_reducible refine Hp.atl_store ?_ ?_); exact rfl; (first | refine Hp.wp_store 0 sh rfl rfl rfl rfl (by kernel_rfl) (Nat.le_of_ble_eq_true rfl) rfl ?_ | refine Hp.wp_store 1 sh rfl rfl rfl rfl (by kernel_rfl) (Nat.le_of_ble_eq_true rfl) rfl ?_ | refine Hp.wp_store 2 sh rfl rfl rfl rfl (by kernel_rfl) (Nat.le_of_ble_eq_true rfl) rfl ?_ | refine Hp.wp_store 3 sh rfl rfl rfl rfl (by kernel_rfl) (Nat.le_of_ble_eq_true rfl) rfl ?_ | refine Hp.wp_store 4 sh rfl rfl rfl rfl (by kernel_rfl) (Nat.le_of_ble_eq_true rfl) rfl ?_ | refine Hp.wp_store 5 sh rfl rfl rfl rfl (by kernel_rfl) (Nat.le_of_ble_eq_true rfl) rfl ?_ | refine Hp.wp_store 6 sh rfl rfl rfl rfl (by kernel_rfl) (Nat.le_of_ble_eq_true rfl) rfl ?_); clear sh; (try clear F); go_simp; intro w1 sh; have F := sh.facts; (try simp only [Hp.Facts, Hp.CellsAt, Nat.reduceAdd, List.cons_append, List.nil_append] at F))
        | fail)
    go_fit (HP.out _ (HM.out _ sh.data))
    rintro e w1 ⟨rfl, hb⟩
    replace sh := sh.call hb; clear hb; (try clear F); have F := sh.facts; (try simp only [Hp.Facts, Hp.CellsAt, Nat.reduceAdd, List.cons_append, List.nil_append] at F)
    go_wp2_with (first
        | ((with_reducible refine Hp.wpl_box sh ?_ ?_); exact rfl; clear sh; (try clear F); go_simp; intro b w1 sh; have F := sh.facts; (try simp only [Hp.Facts, Hp.CellsAt, Nat.reduceAdd, List.cons_append, List.nil_append] at F))
        | ((with_reducible refine Hp.atl_store ?_ ?_); exact rfl; (first | refine Hp.wp_store 0 sh rfl rfl rfl rfl (by kernel_rfl) (Nat.le_of_ble_eq_true rfl) rfl ?_ | refine Hp.wp_store 1 sh rfl rfl rfl rfl (by kernel_rfl) (Nat.le_of_ble_eq_true rfl) rfl ?_ | refine Hp.wp_store 2 sh rfl rfl rfl rfl (by kernel_rfl) (Nat.le_of_ble_eq_true rfl) rfl ?_ | refine Hp.wp_store 3 sh rfl rfl rfl rfl (by kernel_rfl) (Nat.le_of_ble_eq_true rfl) rfl ?_ | refine Hp.wp_store 4 sh rfl rfl rfl rfl (by kernel_rfl) (Nat.le_of_ble_eq_true rfl) rfl ?_ | refine Hp.wp_store 5 sh rfl rfl rfl rfl (by kernel_rfl) (Nat.le_of_ble_eq_true rfl) rfl ?_ | refine Hp.wp_store 6 sh rfl rfl rfl rfl (by kernel_rfl) (Nat.le_of_ble_eq_true rfl) rfl ?_); clear sh; (try clear F); go_simp; intro w1 sh; have F := sh.facts; (try simp only [Hp.Facts, Hp.CellsAt, Nat.reduceAdd, List.cons_append, List.nil_append] at F))
        | fail)
    replace sh := sh.perm (List.Perm.swap _ _ _)
    refine Hp.region_sh1 (by kernel_rfl) sh ?_; clear sh F; intro w1 sh; have F := sh.facts; (try simp only [Hp.Facts, Hp.CellsAt, Nat.reduceAdd, List.cons_append, List.nil_append] at F)
    refine Hp.take (i := 0) (oi := ⟨some 21, Op.move (Operand.tmp 0), _, _, _, none⟩) (v := ?_) rfl (by kernel_rfl) (by kernel_rfl) (by kernel_rfl) (fun _ _ _ h => h) (by rfl) ⟨sh.facts.2, sh.data⟩ ?_ ?_
    rotate_left
    · intro w' hh
      clear hh; go_simp
      try with_reducible rfl
    (try simp only [Act.put, List.setIfInBounds_toArray, List.set_cons_zero, List.set_cons_succ])
    refine Hp.take (i := 1) (oi := ⟨some 22, Op.nilCheck (Operand.tmp 21), _, _, _, none⟩) (v := ?_) rfl (by kernel_rfl) (by kernel_rfl) (by kernel_rfl) (fun _ _ _ h => h) (by rfl) ⟨sh.facts.2, sh.data⟩ ?_ ?_
    rotate_left
    · intro w' hh
      clear hh; go_simp
      try with_reducible rfl
    (try simp only [Act.put, List.setIfInBounds_toArray, List.set_cons_zero, List.set_cons_succ])
    refine Hp.take (i := 2) (oi := ⟨some 23, Op.fieldAddr 43 (Operand.tmp 22) 0, _, _, _, none⟩) (v := ?_) rfl (by kernel_rfl) (by kernel_rfl) (by kernel_rfl) (fun _ _ _ h => h) (by rfl) ⟨sh.facts.2, sh.data⟩ ?_ ?_
    rotate_left
    · intro w' hh
      clear hh; go_simp
      try with_reducible rfl
    (try simp only [Act.put, List.setIfInBounds_toArray, List.set_cons_zero, List.set_cons_succ])
    refine Hp.take (i := 3) (oi := ⟨some 24, Op.load 22 (Operand.tmp 23), _, _, _, none⟩) (v := ?_) rfl (by kernel_rfl) (by kernel_rfl) (by kernel_rfl) (fun _ _ _ h => h) (by rfl) ⟨sh.facts.2, sh.data⟩ ?_ ?_
    rotate_left
    · intro w' hh
      have F' := hh.1; have hd := hh.2; clear hh; (try simp only [Hp.Facts, Hp.CellsAt, Nat.reduceAdd, List.cons_append, List.nil_append] at F'); have hm := RegP.MemIs.cell (HM.out _ hd)
      go_simp
      try with_reducible rfl
    (try simp only [Act.put, List.setIfInBounds_toArray, List.set_cons_zero, List.set_cons_succ])
    refine Hp.take (i := 4) (oi := ⟨some 25, Op.fieldAddr 24 (Operand.tmp 5) 0, _, _, _, none⟩) (v := ?_) rfl (by kernel_rfl) (by kernel_rfl) (by kernel_rfl) (fun _ _ _ h => h) (by rfl) ⟨sh.facts.2, sh.data⟩ ?_ ?_
    rotate_left
    · intro w' hh
      clear hh; go_simp
      try with_reducible rfl
    (try simp only [Act.put, List.setIfInBounds_toArray, List.set_cons_zero, List.set_cons_succ])
    refine Hp.take (i := 5) (oi := ⟨some 26, Op.load 3 (Operand.tmp 25), _, _, _, none⟩) (v := ?_) rfl (by kernel_rfl) (by kernel_rfl) (by kernel_rfl) (fun _ _ _ h => h) (by rfl) ⟨sh.facts.2, sh.data⟩ ?_ ?_
    rotate_left
    · intro w' hh
      have F' := hh.1; have hd := hh.2; clear hh; (try simp only [Hp.Facts, Hp.CellsAt, Nat.reduceAdd, List.cons_append, List.nil_append] at F'); have hm := RegP.MemIs.cell (HM.out _ hd)
      go_simp
      try with_reducible rfl
    (try simp only [Act.put, List.setIfInBounds_toArray, List.set_cons_zero, List.set_cons_succ])
    refine Hp.take (i := 6) (oi := ⟨some 27, Op.move (Operand.tmp 2), _, _, _, none⟩) (v := ?_) rfl (by kernel_rfl) (by kernel_rfl) (by kernel_rfl) (fun _ _ _ h => h) (by rfl) ⟨sh.facts.2, sh.data⟩ ?_ ?_
    rotate_left
    · intro w' hh
      clear hh; go_simp
      try with_reducible rfl
    (try simp only [Act.put, List.setIfInBounds_toArray, List.set_cons_zero, List.set_cons_succ])
    refine Hp.take (i := 7) (oi := ⟨some 28, Op.binOp BinOp.add 3 (Operand.tmp 26) (Operand.tmp 27) 3, _, _, _, none⟩) (v := ?_) rfl (by kernel_rfl) (by kernel_rfl) (by kernel_rfl) (fun _ _ _ h => h) (by rfl) ⟨sh.facts.2, sh.data⟩ ?_ ?_
    rotate_left
    · intro w' hh
      clear hh; go_simp
      try with_reducible rfl
    (try simp only [Act.put, List.setIfInBounds_toArray, List.set_cons_zero, List.set_cons_succ])
    refine Hp.take (i := 8) (oi := ⟨some 29, Op.move (Operand.tmp 3), _, _, _, none⟩) (v := ?_) rfl (by kernel_rfl) (by kernel_rfl) (by kernel_rfl) (fun _ _ _ h => h) (by rfl) ⟨sh.facts.2, sh.data⟩ ?_ ?_
    rotate_left
    · intro w' hh
      clear hh; go_simp
      try with_reducible rfl
    (try simp only [Act.put, List.setIfInBounds_toArray, List.set_cons_zero, List.set_cons_succ])
    refine Hp.take (i := 9) (oi := ⟨some 30, Op.indexAddr 22 (Operand.tmp 24) (Operand.tmp 28), _, _, _, none⟩) (v := ?_) rfl (by kernel_rfl) (by kernel_rfl) (by kernel_rfl) (fun _ _ _ h => h) (by rfl) ⟨sh.facts.2, sh.data⟩ ?_ ?_
    rotate_left
    · intro w' hh
      clear hh; go_simp
      try with_reducible rfl
    (try simp only [Act.put, List.setIfInBounds_toArray, List.set_cons_zero, List.set_cons_succ])
    refine Hp.branch [10] (by kernel_rfl) (by simp) ?_
    refine Hp.Each.cons ?_ ?_
    · refine Hp.op_step (o := ⟨none, Op.store 25 (Operand.tmp 30) (Operand.tmp 29), _, _, _, none⟩) rfl (by rfl) (fun K hK => ?_)
      (refine Hp.wp_store 0 sh rfl rfl rfl rfl (by kernel_rfl) (by show b + a + 1 ≤ _; rw [List.size_toArray]; exact HLT.out) rfl ?_); clear sh; (try clear F); go_simp; intro w1 sh; simp only [RegP.ints_set, RegP.ints_setL] at sh; have F := sh.facts; (try simp only [Hp.Facts, Hp.CellsAt, Nat.reduceAdd, List.cons_append, List.nil_append] at F)
      refine hK _ _ ⟨sh.facts.2, sh.data⟩ ?_; clear hK K; (try simp only [Act.put, List.setIfInBounds_toArray, List.set_cons_zero, List.set_cons_succ])
      refine wpAnyH_done (by kernel_rfl) ?_ _
      go_wp2; go_ret; exact ⟨rfl, (sh.perm (List.Perm.swap _ _ _)).drop1⟩
    exact Hp.Each.nil
  · rw [show RegP.setW n ws b z at' v = ws by unfold RegP.setW; rw [if_neg hp]]
    obtain ⟨c, hc⟩ : ∃ c, RegP.pc n b z at' 1 = c := ⟨_, rfl⟩
    rw [hc] at hp ⊢
    rcases RegP.pc1_cases hc hp with ⟨ho, rfl⟩ | ⟨ho, rfl, hx⟩
    · rw [ho] at HP
      clear hM hp hc ho hws
      go_enter Try.func43, Try.ntmps43
      have F := sh.facts; (try simp only [Hp.Facts, Hp.CellsAt, Nat.reduceAdd, List.cons_append, List.nil_append] at F)
      have tok_bp : True := trivial
      go_wp2_with (first
          | ((have tok := tok_bp); clear tok tok_bp; (first | (with_reducible refine Hp.wpl_box sh ?_ ?_)); exact rfl; clear sh; (try clear F); go_simp; intro bp w1 sh; have F := sh.facts; (try simp only [Hp.Facts, Hp.CellsAt, Nat.reduceAdd, List.cons_append, List.nil_append] at F))
          | ((with_reducible refine Hp.wpl_box sh ?_ ?_); exact rfl; clear sh; (try clear F); go_simp; intro b w1 sh; have F := sh.facts; (try simp only [Hp.Facts, Hp.CellsAt, Nat.reduceAdd, List.cons_append, List.nil_append] at F))
          | ((with_reducible refine Hp.atl_store ?_ ?_); exact rfl; (first | refine Hp.wp_store 0 sh rfl rfl rfl rfl (by kernel_rfl) (Nat.le_of_ble_eq_true rfl) rfl ?_ | refine Hp.wp_store 1 sh rfl rfl rfl rfl (by kernel_rfl) (Nat.le_of_ble_eq_true rfl) rfl ?_ | refine Hp.wp_store 2 sh rfl rfl rfl rfl (by kernel_rfl) (Nat.le_of_ble_eq_true rfl) rfl ?_ | refine Hp.wp_store 3 sh rfl rfl rfl rfl (by kernel_rfl) (Nat.le_of_ble_eq_true rfl) rfl ?_ | refine Hp.wp_store 4 sh rfl rfl rfl rfl (by kernel_rfl) (Nat.le_of_ble_eq_true rfl) rfl ?_ | refine Hp.wp_store 5 sh rfl rfl rfl rfl (by kernel_rfl) (Nat.le_of_ble_eq_true rfl) rfl ?_ | refine Hp.wp_store 6 sh rfl rfl rfl rfl (by kernel_rfl) (Nat.le_of_ble_eq_true rfl) rfl ?_); clear sh; (try clear F); go_simp; intro w1 sh; have F := sh.facts; (try simp only [Hp.Facts, Hp.CellsAt, Nat.reduceAdd, List.cons_append, List.nil_append] at F))
          | fail)
      go_fit (HP.out _ (HM.out _ sh.data))
      rintro e w1 ⟨rfl, hb⟩
      replace sh := sh.call hb; clear hb; (try clear F); have F := sh.facts; (try simp only [Hp.Facts, Hp.CellsAt, Nat.reduceAdd, List.cons_append, List.nil_append] at F)
      go_wp2_with (first
          | ((with_reducible refine Hp.wpl_box sh ?_ ?_); exact rfl; clear sh; (try clear F); go_simp; intro b w1 sh; have F := sh.facts; (try simp only [Hp.Facts, Hp.CellsAt, Nat.reduceAdd, List.cons_append, List.nil_append] at F))
          | ((with_reducible refine Hp.atl_store ?_ ?_); exact rfl; (first | refine Hp.wp_store 0 sh rfl rfl rfl rfl (by kernel_rfl) (Nat.le_of_ble_eq_true rfl) rfl ?_ | refine Hp.wp_store 1 sh rfl rfl rfl rfl (by kernel_rfl) (Nat.le_of_ble_eq_true rfl) rfl ?_ | refine Hp.wp_store 2 sh rfl rfl rfl rfl (by kernel_rfl) (Nat.le_of_ble_eq_true rfl) rfl ?_ | refine Hp.wp_store 3 sh rfl rfl rfl rfl (by kernel_rfl) (Nat.le_of_ble_eq_true rfl) rfl ?_ | refine Hp.wp_store 4 sh rfl rfl rfl rfl (by kernel_rfl) (Nat.le_of_ble_eq_true rfl) rfl ?_ | refine Hp.wp_store 5 sh rfl rfl rfl rfl (by kernel_rfl) (Nat.le_of_ble_eq_true rfl) rfl ?_ | refine Hp.wp_store 6 sh rfl rfl rfl rfl (by kernel_rfl) (Nat.le_of_ble_eq_true rfl) rfl ?_); clear sh; (try clear F); go_simp; intro w1 sh; have F := sh.facts; (try simp only [Hp.Facts, Hp.CellsAt, Nat.reduceAdd, List.cons_append, List.nil_append] at F))
          | fail)
      go_ret
      exact ⟨rfl, sh.drop1⟩
    · rw [ho] at HP
      clear hM hp hc ho hws
      rcases hx with hx | ⟨hx, hx2⟩
      · go_enter Try.func43, Try.ntmps43
        have F := sh.facts; (try simp only [Hp.Facts, Hp.CellsAt, Nat.reduceAdd, List.cons_append, List.nil_append] at F)
        have tok_bp : True := trivial
        go_wp2_with (first
            | ((have tok := tok_bp); clear tok tok_bp; (first | (with_reducible refine Hp.wpl_box sh ?_ ?_)); exact rfl; clear sh; (try clear F); go_simp; intro bp w1 sh; have F := sh.facts; (try simp only [Hp.Facts, Hp.CellsAt, Nat.reduceAdd, List.cons_append, List.nil_append] at F))
            | ((with_reducible refine Hp.wpl_box sh ?_ ?_); exact rfl; clear sh; (try clear F); go_simp; intro b w1 sh; have F := sh.facts; (try simp only [Hp.Facts, Hp.CellsAt, Nat.reduceAdd, List.cons_append, List.nil_append] at F))
            | ((with_reducible refine Hp.atl_store ?_ ?_); exact rfl; (first | refine Hp.wp_store 0 sh rfl rfl rfl rfl (by kernel_rfl) (Nat.le_of_ble_eq_true rfl) rfl ?_ | refine Hp.wp_store 1 sh rfl rfl rfl rfl (by kernel_rfl) (Nat.le_of_ble_eq_true rfl) rfl ?_ | refine Hp.wp_store 2 sh rfl rfl rfl rfl (by kernel_rfl) (Nat.le_of_ble_eq_true rfl) rfl ?_ | refine Hp.wp_store 3 sh rfl rfl rfl rfl (by kernel_rfl) (Nat.le_of_ble_eq_true rfl) rfl ?_ | refine Hp.wp_store 4 sh rfl rfl rfl rfl (by kernel_rfl) (Nat.le_of_ble_eq_true rfl) rfl ?_ | refine Hp.wp_store 5 sh rfl rfl rfl rfl (by kernel_rfl) (Nat.le_of_ble_eq_true rfl) rfl ?_ | refine Hp.wp_store 6 sh rfl rfl rfl rfl (by kernel_rfl) (Nat.le_of_ble_eq_true rfl) rfl ?_); clear sh; (try clear F); go_simp; intro w1 sh; have F := sh.facts; (try simp only [Hp.Facts, Hp.CellsAt, Nat.reduceAdd, List.cons_append, List.nil_append] at F))
            | fail)
        go_fit (HP.out _ (HM.out _ sh.data))
        rintro e w1 ⟨rfl, hb⟩
        replace sh := sh.call hb; clear hb; (try clear F); have F := sh.facts; (try simp only [Hp.Facts, Hp.CellsAt, Nat.reduceAdd, List.cons_append, List.nil_append] at F)
        go_wp2_with (first
            | ((with_reducible refine Hp.wpl_box sh ?_ ?_); exact rfl; clear sh; (try clear F); go_simp; intro b w1 sh; have F := sh.facts; (try simp only [Hp.Facts, Hp.CellsAt, Nat.reduceAdd, List.cons_append, List.nil_append] at F))
            | ((with_reducible refine Hp.atl_store ?_ ?_); exact rfl; (first | refine Hp.wp_store 0 sh rfl rfl rfl rfl (by kernel_rfl) (Nat.le_of_ble_eq_true rfl) rfl ?_ | refine Hp.wp_store 1 sh rfl rfl rfl rfl (by kernel_rfl) (Nat.le_of_ble_eq_true rfl) rfl ?_ | refine Hp.wp_store 2 sh rfl rfl rfl rfl (by kernel_rfl) (Nat.le_of_ble_eq_true rfl) rfl ?_ | refine Hp.wp_store 3 sh rfl rfl rfl rfl (by kernel_rfl) (Nat.le_of_ble_eq_true rfl) rfl ?_ | refine Hp.wp_store 4 sh rfl rfl rfl rfl (by kernel_rfl) (Nat.le_of_ble_eq_true rfl) rfl ?_ | refine Hp.wp_store 5 sh rfl rfl rfl rfl (by kernel_rfl) (Nat.le_of_ble_eq_true rfl) rfl ?_ | refine Hp.wp_store 6 sh rfl rfl rfl rfl (by kernel_rfl) (Nat.le_of_ble_eq_true rfl) rfl ?_); clear sh; (try clear F); go_simp; intro w1 sh; have F := sh.facts; (try simp only [Hp.Facts, Hp.CellsAt, Nat.reduceAdd, List.cons_append, List.nil_append] at F))
            | fail)
        go_ret
        exact ⟨rfl, sh.drop1⟩
      · go_enter Try.func43, Try.ntmps43
        have F := sh.facts; (try simp only [Hp.Facts, Hp.CellsAt, Nat.reduceAdd, List.cons_append, List.nil_append] at F)
        have tok_bp : True := trivial
        go_wp2_with (first
            | ((have tok := tok_bp); clear tok tok_bp; (first | (with_reducible refine Hp.wpl_box sh ?_ ?_)); exact rfl; clear sh; (try clear F); go_simp; intro bp w1 sh; have F := sh.facts; (try simp only [Hp.Facts, Hp.CellsAt, Nat.reduceAdd, List.cons_append, List.nil_append] at F))
            | ((with_reducible refine Hp.wpl_box sh ?_ ?_); exact rfl; clear sh; (try clear F); go_simp; intro b w1 sh; have F := sh.facts; (try simp only [Hp.Facts, Hp.CellsAt, Nat.reduceAdd, List.cons_append, List.nil_append] at F))
            | ((with_reducible refine Hp.atl_store ?_ ?_); exact rfl; (first | refine Hp.wp_store 0 sh rfl rfl rfl rfl (by kernel_rfl) (Nat.le_of_ble_eq_true rfl) rfl ?_ | refine Hp.wp_store 1 sh rfl rfl rfl rfl (by kernel_rfl) (Nat.le_of_ble_eq_true rfl) rfl ?_ | refine Hp.wp_store 2 sh rfl rfl rfl rfl (by kernel_rfl) (Nat.le_of_ble_eq_true rfl) rfl ?_ | refine Hp.wp_store 3 sh rfl rfl rfl rfl (by kernel_rfl) (Nat.le_of_ble_eq_true rfl) rfl ?_ | refine Hp.wp_store 4 sh rfl rfl rfl rfl (by kernel_rfl) (Nat.le_of_ble_eq_true rfl) rfl ?_ | refine Hp.wp_store 5 sh rfl rfl rfl rfl (by kernel_rfl) (Nat.le_of_ble_eq_true rfl) rfl ?_ | refine Hp.wp_store 6 sh rfl rfl rfl rfl (by kernel_rfl) (Nat.le_of_ble_eq_true rfl) rfl ?_); clear sh; (try clear F); go_simp; intro w1 sh; have F := sh.facts; (try simp only [Hp.Facts, Hp.CellsAt, Nat.reduceAdd, List.cons_append, List.nil_append] at F))
            | fail)
        go_fit (HP.out _ (HM.out _ sh.data))
        rintro e w1 ⟨rfl, hb⟩
        replace sh := sh.call hb; clear hb; (try clear F); have F := sh.facts; (try simp only [Hp.Facts, Hp.CellsAt, Nat.reduceAdd, List.cons_append, List.nil_append] at F)
        go_wp2_with (first
            | ((with_reducible refine Hp.wpl_box sh ?_ ?_); exact rfl; clear sh; (try clear F); go_simp; intro b w1 sh; have F := sh.facts; (try simp only [Hp.Facts, Hp.CellsAt, Nat.reduceAdd, List.cons_append, List.nil_append] at F))
            | ((with_reducible refine Hp.atl_store ?_ ?_); exact rfl; (first | refine Hp.wp_store 0 sh rfl rfl rfl rfl (by kernel_rfl) (Nat.le_of_ble_eq_true rfl) rfl ?_ | refine Hp.wp_store 1 sh rfl rfl rfl rfl (by kernel_rfl) (Nat.le_of_ble_eq_true rfl) rfl ?_ | refine Hp.wp_store 2 sh rfl rfl rfl rfl (by kernel_rfl) (Nat.le_of_ble_eq_true rfl) rfl ?_ | refine Hp.wp_store 3 sh rfl rfl rfl rfl (by kernel_rfl) (Nat.le_of_ble_eq_true rfl) rfl ?_ | refine Hp.wp_store 4 sh rfl rfl rfl rfl (by kernel_rfl) (Nat.le_of_ble_eq_true rfl) rfl ?_ | refine Hp.wp_store 5 sh rfl rfl rfl rfl (by kernel_rfl) (Nat.le_of_ble_eq_true rfl) rfl ?_ | refine Hp.wp_store 6 sh rfl rfl rfl rfl (by kernel_rfl) (Nat.le_of_ble_eq_true rfl) rfl ?_); clear sh; (try clear F); go_simp; intro w1 sh; have F := sh.facts; (try simp only [Hp.Facts, Hp.CellsAt, Nat.reduceAdd, List.cons_append, List.nil_append] at F))
            | fail)
        go_ret
        exact ⟨rfl, sh.drop1⟩

end Go.Proofs.Ytfioeliejblboaa
