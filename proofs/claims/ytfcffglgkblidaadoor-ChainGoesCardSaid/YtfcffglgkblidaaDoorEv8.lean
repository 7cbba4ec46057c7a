
/-
  The walk of the reference's Run.
-/
import Derived.Test.YtfcffglgkblidaaDoorEv7
namespace Go.Proofs.YtfcffglgkblidaaDoor
open Go.RowKit
set_option linter.unusedVariables false
set_option linter.unusedSimpArgs false

set_option maxHeartbeats 4000000 in set_option maxRecDepth 100000 in
theorem errun (s : Option Addr) (L : List EvP.Ev) (n c : Nat) (hn : n = L.length) (hnc : n ≤ c) (hm : n ≤ 2000) (hB : ∀ x ∈ L, EvP.EvB x) (w : World) (hR : Hp.RdV w s (L.flatMap EvP.evc)) :
    Calls Tryd.prog 63 #[.slice s n c] w fun e w' => e = .returned (.bool (EvP.runB L)) ∧ Below w.heap.size w w' := by
  have sh := Hp.Sh.start (RdV_rob hR)
  have HL := Lib.hid hn
  have HB := Lib.hid hB
  clear hn hB hR
  go_enter Tryd.func63, Tryd.ntmps63
  have F := sh.fx
  go_wp2_with (first
      | ((with_reducible first | refine Hp.wpl_box sh ?_ ?_ | refine Hp.atl_store ?_ ?_); exact rfl; (try (refine Hp.wsB sh ?_)); clear sh; (try clear F); go_simp; (first | intro b w1 sh | intro w1 sh); have F := sh.fx)
      | fail)
  go_loopw [3] (fun i wr => ∃ k : Nat, i = .int .i64 k ∧ k ≤ n ∧ Hid (∀ j, j < k → EvP.okAt L j = true) ∧ Hp.Sh w wr [] (fun W => Hp.RdV W s (L.flatMap EvP.evc))) (fun i _ => n - (intOf i).toNat)
  case atStart => exact ⟨0, rfl, by omega, fun j hj => by omega, sh⟩
  case round =>
    clear sh F
    obtain ⟨k, rfl, hk, HM, sh⟩ := hrel
    have F := sh.fx
    by_cases hlt : k < n
    · have hlI : (k : Int) < (n : Int) := by omega
      have hkL : k < L.length := by rw [← HL.out]; exact hlt
      obtain ⟨p, hp, -⟩ := sh.data (Hp.flat_pos EvP.evc_len (by decide) hkL)
      subst hp
      rcases hx : L[k] with ⟨q, t, r, m, a, b⟩
      have HC := Lib.hid (fun W (h : Hp.RdV W (some p) (L.flatMap EvP.evc)) => EvP.ev_cells h hkL hx)
      have hb := HB.out _ (List.getElem_mem hkL)
      rw [hx] at hb
      obtain ⟨b1, b2, b3, b4, b5, b6⟩ := hb
      dsimp only at b1 b2 b3 b4 b5 b6
      have H1 := fun W => eris q t r m a b W b1 b2 b3 b4 b5 b6
      clear b2 b3 b4 b5 b6
      cases k with
      | zero =>
        rw [EvP.add_z] at HC
        have hok := EvP.okAt_first hkL
        have hx' : L[0] = (q, t, r, m, a, b) := hx
        rw [hx'] at hok
        have d1 : decide ((0 : Int) < 0) = false := rfl
        cases hi : EvP.isB (q, t, r, m, a, b) with
        | true =>
          rw [hi] at H1 hok
          have H2 := Lib.hid H1
          have HO := Lib.hid (EvP.ok_step HM.out hok)
          clear H1 hx hx' hok hi hkL
          go_wp2_with (first
              | ((with_reducible first | refine Hp.wpl_box sh ?_ ?_ | refine Hp.atl_store ?_ ?_); exact rfl; (try (refine Hp.wsB sh ?_)); clear sh; (try clear F); go_simp; (first | intro b w1 sh | intro w1 sh); have F := sh.fx)
              | fail)
          refine wp_region_quiet (C := Hp.Cls _ _ _) (by kernel_rfl) (by kernel_rfl) sh.drew ?_; clear sh; (try clear F)
          (try simp only [])
          iterate 3 (first | go_big_quiet_skip | (go_big_quiet_want; go_big_quiet_op; first | go_big_quiet_on | (refine ⟨_, fun _ _ => rfl, ?_⟩; go_big_quiet_on)))
          (first | go_big_quiet_skip | (go_big_quiet_want; refine Hp.quiet_val _ (fun W hW => by have F := Hp.Sh.facts hW; have hd := Hp.Sh.data hW; (try simp only [Hp.Facts, Hp.CellsAt, Nat.reduceAdd, Hp.c1, Hp.c2] at F); have hcs := HC.out _ hd; go_simp; rfl) ?_; (try simp only [Act.put, Hp.p1, Hp.p2, Hp.p3]); go_big_quiet_on) | (go_big_quiet_want; refine Hp.quiet_val _ (fun W hW => by have F := Hp.Sh.facts hW; have hd := Hp.Sh.data hW; (try simp only [Hp.Facts, Hp.CellsAt, Nat.reduceAdd, Hp.c1, Hp.c2] at F); have hcs := HC.out _ hd; go_simp) ?_; (try simp only [Act.put, Hp.p1, Hp.p2, Hp.p3]); go_big_quiet_on))
          (go_big_quiet_want; refine Hp.quiet_call _ _ _ (fun W hW => by go_simp) (fun W hW => H2.out W) ?_; (try simp only [Act.put, Hp.p1, Hp.p2, Hp.p3]); go_big_quiet_on)
          iterate 9 (first | go_big_quiet_skip | (go_big_quiet_want; go_big_quiet_op; first | go_big_quiet_on | (refine ⟨_, fun _ _ => rfl, ?_⟩; go_big_quiet_on)))
          (first | go_big_quiet_skip | (go_big_quiet_want; refine Hp.quiet_val _ (fun W hW => by have F := Hp.Sh.facts hW; have hd := Hp.Sh.data hW; (try simp only [Hp.Facts, Hp.CellsAt, Nat.reduceAdd, Hp.c1, Hp.c2] at F); have hcs := HC.out _ hd; go_simp; rfl) ?_; (try simp only [Act.put, Hp.p1, Hp.p2, Hp.p3]); go_big_quiet_on) | (go_big_quiet_want; refine Hp.quiet_val _ (fun W hW => by have F := Hp.Sh.facts hW; have hd := Hp.Sh.data hW; (try simp only [Hp.Facts, Hp.CellsAt, Nat.reduceAdd, Hp.c1, Hp.c2] at F); have hcs := HC.out _ hd; go_simp) ?_; (try simp only [Act.put, Hp.p1, Hp.p2, Hp.p3]); go_big_quiet_on))
          iterate 7 (first | go_big_quiet_skip | (go_big_quiet_want; go_big_quiet_op; first | go_big_quiet_on | (refine ⟨_, fun _ _ => rfl, ?_⟩; go_big_quiet_on)))
          (first | go_big_quiet_skip | (go_big_quiet_want; refine Hp.quiet_val _ (fun W hW => by have F := Hp.Sh.facts hW; have hd := Hp.Sh.data hW; (try simp only [Hp.Facts, Hp.CellsAt, Nat.reduceAdd, Hp.c1, Hp.c2] at F); have hcs := HC.out _ hd; go_simp; rfl) ?_; (try simp only [Act.put, Hp.p1, Hp.p2, Hp.p3]); go_big_quiet_on) | (go_big_quiet_want; refine Hp.quiet_val _ (fun W hW => by have F := Hp.Sh.facts hW; have hd := Hp.Sh.data hW; (try simp only [Hp.Facts, Hp.CellsAt, Nat.reduceAdd, Hp.c1, Hp.c2] at F); have hcs := HC.out _ hd; go_simp) ?_; (try simp only [Act.put, Hp.p1, Hp.p2, Hp.p3]); go_big_quiet_on))
          iterate 4 (first | go_big_quiet_skip | (go_big_quiet_want; go_big_quiet_op; first | go_big_quiet_on | (refine ⟨_, fun _ _ => rfl, ?_⟩; go_big_quiet_on)))
          (first | go_big_quiet_skip | (go_big_quiet_want; refine Hp.quiet_val _ (fun W hW => by have F := Hp.Sh.facts hW; have hd := Hp.Sh.data hW; (try simp only [Hp.Facts, Hp.CellsAt, Nat.reduceAdd, Hp.c1, Hp.c2] at F); have hcs := HC.out _ hd; go_simp; rfl) ?_; (try simp only [Act.put, Hp.p1, Hp.p2, Hp.p3]); go_big_quiet_on) | (go_big_quiet_want; refine Hp.quiet_val _ (fun W hW => by have F := Hp.Sh.facts hW; have hd := Hp.Sh.data hW; (try simp only [Hp.Facts, Hp.CellsAt, Nat.reduceAdd, Hp.c1, Hp.c2] at F); have hcs := HC.out _ hd; go_simp) ?_; (try simp only [Act.put, Hp.p1, Hp.p2, Hp.p3]); go_big_quiet_on))
          iterate 5 (first | go_big_quiet_skip | (go_big_quiet_want; go_big_quiet_op; first | go_big_quiet_on | (refine ⟨_, fun _ _ => rfl, ?_⟩; go_big_quiet_on)))
          refine wpQuiet_nil ?_; intro w1 sh; have F := sh.fx
          go_wp2_with (first
              | ((with_reducible first | refine Hp.wpl_box sh ?_ ?_ | refine Hp.atl_store ?_ ?_); exact rfl; (try (refine Hp.wsB sh ?_)); clear sh; (try clear F); go_simp; (first | intro b w1 sh | intro w1 sh); have F := sh.fx)
              | fail)
          go_roundw
          case rel => exact ⟨1, by go_num, by omega, HO.out, sh⟩
          case measure => simp [intOf]; omega
        | false =>
          rw [hi] at H1 hok
          have H2 := Lib.hid H1
          have HO := Lib.hid (EvP.runB_false hkL hok)
          clear H1 hx hx' hok hi hkL
          go_wp2_with (first
              | ((with_reducible first | refine Hp.wpl_box sh ?_ ?_ | refine Hp.atl_store ?_ ?_); exact rfl; (try (refine Hp.wsB sh ?_)); clear sh; (try clear F); go_simp; (first | intro b w1 sh | intro w1 sh); have F := sh.fx)
              | fail)
          refine wp_region_quiet (C := Hp.Cls _ _ _) (by kernel_rfl) (by kernel_rfl) sh.drew ?_; clear sh; (try clear F)
          (try simp only [])
          iterate 3 (first | go_big_quiet_skip | (go_big_quiet_want; go_big_quiet_op; first | go_big_quiet_on | (refine ⟨_, fun _ _ => rfl, ?_⟩; go_big_quiet_on)))
          (first | go_big_quiet_skip | (go_big_quiet_want; refine Hp.quiet_val _ (fun W hW => by have F := Hp.Sh.facts hW; have hd := Hp.Sh.data hW; (try simp only [Hp.Facts, Hp.CellsAt, Nat.reduceAdd, Hp.c1, Hp.c2] at F); have hcs := HC.out _ hd; go_simp; rfl) ?_; (try simp only [Act.put, Hp.p1, Hp.p2, Hp.p3]); go_big_quiet_on) | (go_big_quiet_want; refine Hp.quiet_val _ (fun W hW => by have F := Hp.Sh.facts hW; have hd := Hp.Sh.data hW; (try simp only [Hp.Facts, Hp.CellsAt, Nat.reduceAdd, Hp.c1, Hp.c2] at F); have hcs := HC.out _ hd; go_simp) ?_; (try simp only [Act.put, Hp.p1, Hp.p2, Hp.p3]); go_big_quiet_on))
          (go_big_quiet_want; refine Hp.quiet_call _ _ _ (fun W hW => by go_simp) (fun W hW => H2.out W) ?_; (try simp only [Act.put, Hp.p1, Hp.p2, Hp.p3]); go_big_quiet_on)
          iterate 9 (first | go_big_quiet_skip | (go_big_quiet_want; go_big_quiet_op; first | go_big_quiet_on | (refine ⟨_, fun _ _ => rfl, ?_⟩; go_big_quiet_on)))
          (first | go_big_quiet_skip | (go_big_quiet_want; refine Hp.quiet_val _ (fun W hW => by have F := Hp.Sh.facts hW; have hd := Hp.Sh.data hW; (try simp only [Hp.Facts, Hp.CellsAt, Nat.reduceAdd, Hp.c1, Hp.c2] at F); have hcs := HC.out _ hd; go_simp; rfl) ?_; (try simp only [Act.put, Hp.p1, Hp.p2, Hp.p3]); go_big_quiet_on) | (go_big_quiet_want; refine Hp.quiet_val _ (fun W hW => by have F := Hp.Sh.facts hW; have hd := Hp.Sh.data hW; (try simp only [Hp.Facts, Hp.CellsAt, Nat.reduceAdd, Hp.c1, Hp.c2] at F); have hcs := HC.out _ hd; go_simp) ?_; (try simp only [Act.put, Hp.p1, Hp.p2, Hp.p3]); go_big_quiet_on))
          iterate 7 (first | go_big_quiet_skip | (go_big_quiet_want; go_big_quiet_op; first | go_big_quiet_on | (refine ⟨_, fun _ _ => rfl, ?_⟩; go_big_quiet_on)))
          (first | go_big_quiet_skip | (go_big_quiet_want; refine Hp.quiet_val _ (fun W hW => by have F := Hp.Sh.facts hW; have hd := Hp.Sh.data hW; (try simp only [Hp.Facts, Hp.CellsAt, Nat.reduceAdd, Hp.c1, Hp.c2] at F); have hcs := HC.out _ hd; go_simp; rfl) ?_; (try simp only [Act.put, Hp.p1, Hp.p2, Hp.p3]); go_big_quiet_on) | (go_big_quiet_want; refine Hp.quiet_val _ (fun W hW => by have F := Hp.Sh.facts hW; have hd := Hp.Sh.data hW; (try simp only [Hp.Facts, Hp.CellsAt, Nat.reduceAdd, Hp.c1, Hp.c2] at F); have hcs := HC.out _ hd; go_simp) ?_; (try simp only [Act.put, Hp.p1, Hp.p2, Hp.p3]); go_big_quiet_on))
          iterate 4 (first | go_big_quiet_skip | (go_big_quiet_want; go_big_quiet_op; first | go_big_quiet_on | (refine ⟨_, fun _ _ => rfl, ?_⟩; go_big_quiet_on)))
          (first | go_big_quiet_skip | (go_big_quiet_want; refine Hp.quiet_val _ (fun W hW => by have F := Hp.Sh.facts hW; have hd := Hp.Sh.data hW; (try simp only [Hp.Facts, Hp.CellsAt, Nat.reduceAdd, Hp.c1, Hp.c2] at F); have hcs := HC.out _ hd; go_simp; rfl) ?_; (try simp only [Act.put, Hp.p1, Hp.p2, Hp.p3]); go_big_quiet_on) | (go_big_quiet_want; refine Hp.quiet_val _ (fun W hW => by have F := Hp.Sh.facts hW; have hd := Hp.Sh.data hW; (try simp only [Hp.Facts, Hp.CellsAt, Nat.reduceAdd, Hp.c1, Hp.c2] at F); have hcs := HC.out _ hd; go_simp) ?_; (try simp only [Act.put, Hp.p1, Hp.p2, Hp.p3]); go_big_quiet_on))
          iterate 5 (first | go_big_quiet_skip | (go_big_quiet_want; go_big_quiet_op; first | go_big_quiet_on | (refine ⟨_, fun _ _ => rfl, ?_⟩; go_big_quiet_on)))
          refine wpQuiet_nil ?_; intro w1 sh; have F := sh.fx
          go_wp2_with (first
              | ((with_reducible first | refine Hp.wpl_box sh ?_ ?_ | refine Hp.atl_store ?_ ?_); exact rfl; (try (refine Hp.wsB sh ?_)); clear sh; (try clear F); go_simp; (first | intro b w1 sh | intro w1 sh); have F := sh.fx)
              | fail)
          go_ret
          exact ⟨ret_bool HO.out.symm, sh.below⟩
      | succ j =>
        have hok := EvP.okAt_next hkL
        have HD := Lib.hid (fun W (h : Hp.RdV W (some p) (L.flatMap EvP.evc)) => (EvP.two_of h hkL).1)
        rw [hx] at hok
        dsimp only at hok
        generalize L[j].1 = x at hok HD
        have d1 : decide ((0 : Int) < ((j + 1 : Nat) : Int)) = true := decide_eq_true (by omega)
        have d2 : decide ((0 : Int) < (j : Int) + 1) = true := decide_eq_true (by omega)
        have d3 : decide (0 < j + 1) = true := decide_eq_true (by omega)
        have g1 : (((j + 1 : Nat) : Int) - 1) = (j : Int) := by omega
        have g2 : ((j : Int) + 1 - 1) = (j : Int) := by omega
        have g3 : IntKind.i64.wrap (j : Int) = j := IntWalk.i64_in _ (by omega)
        have g4 : (j : Int) < (n : Int) := by omega
        have g5 : (j : Int) + 1 < (n : Int) := by omega
        cases hi : EvP.isB (q, t, r, m, a, b) with
        | false =>
          rw [hi] at H1 hok
          have H2 := Lib.hid H1
          have HO := Lib.hid (EvP.runB_false hkL hok)
          clear H1 hx hok hi hkL
          go_wp2_with (first
              | ((with_reducible first | refine Hp.wpl_box sh ?_ ?_ | refine Hp.atl_store ?_ ?_); exact rfl; (try (refine Hp.wsB sh ?_)); clear sh; (try clear F); go_simp; (first | intro b w1 sh | intro w1 sh); have F := sh.fx)
              | fail)
          refine wp_region_quiet (C := Hp.Cls _ _ _) (by kernel_rfl) (by kernel_rfl) sh.drew ?_; clear sh; (try clear F)
          (try simp only [])
          iterate 3 (first | go_big_quiet_skip | (go_big_quiet_want; go_big_quiet_op; first | go_big_quiet_on | (refine ⟨_, fun _ _ => rfl, ?_⟩; go_big_quiet_on)))
          (first | go_big_quiet_skip | (go_big_quiet_want; refine Hp.quiet_val _ (fun W hW => by have F := Hp.Sh.facts hW; have hd := Hp.Sh.data hW; (try simp only [Hp.Facts, Hp.CellsAt, Nat.reduceAdd, Hp.c1, Hp.c2] at F); have hcs := HC.out _ hd; go_simp; rfl) ?_; (try simp only [Act.put, Hp.p1, Hp.p2, Hp.p3]); go_big_quiet_on) | (go_big_quiet_want; refine Hp.quiet_val _ (fun W hW => by have F := Hp.Sh.facts hW; have hd := Hp.Sh.data hW; (try simp only [Hp.Facts, Hp.CellsAt, Nat.reduceAdd, Hp.c1, Hp.c2] at F); have hcs := HC.out _ hd; go_simp) ?_; (try simp only [Act.put, Hp.p1, Hp.p2, Hp.p3]); go_big_quiet_on))
          (go_big_quiet_want; refine Hp.quiet_call _ _ _ (fun W hW => by go_simp) (fun W hW => H2.out W) ?_; (try simp only [Act.put, Hp.p1, Hp.p2, Hp.p3]); go_big_quiet_on)
          iterate 9 (first | go_big_quiet_skip | (go_big_quiet_want; go_big_quiet_op; first | go_big_quiet_on | (refine ⟨_, fun _ _ => rfl, ?_⟩; go_big_quiet_on)))
          (first | go_big_quiet_skip | (go_big_quiet_want; refine Hp.quiet_val _ (fun W hW => by have F := Hp.Sh.facts hW; have hd := Hp.Sh.data hW; (try simp only [Hp.Facts, Hp.CellsAt, Nat.reduceAdd, Hp.c1, Hp.c2] at F); have hcs := HC.out _ hd; go_simp; rfl) ?_; (try simp only [Act.put, Hp.p1, Hp.p2, Hp.p3]); go_big_quiet_on) | (go_big_quiet_want; refine Hp.quiet_val _ (fun W hW => by have F := Hp.Sh.facts hW; have hd := Hp.Sh.data hW; (try simp only [Hp.Facts, Hp.CellsAt, Nat.reduceAdd, Hp.c1, Hp.c2] at F); have hcs := HC.out _ hd; go_simp) ?_; (try simp only [Act.put, Hp.p1, Hp.p2, Hp.p3]); go_big_quiet_on))
          iterate 7 (first | go_big_quiet_skip | (go_big_quiet_want; go_big_quiet_op; first | go_big_quiet_on | (refine ⟨_, fun _ _ => rfl, ?_⟩; go_big_quiet_on)))
          (first | go_big_quiet_skip | (go_big_quiet_want; refine Hp.quiet_val _ (fun W hW => by have F := Hp.Sh.facts hW; have hd := Hp.Sh.data hW; (try simp only [Hp.Facts, Hp.CellsAt, Nat.reduceAdd, Hp.c1, Hp.c2] at F); have hcs := HC.out _ hd; go_simp; rfl) ?_; (try simp only [Act.put, Hp.p1, Hp.p2, Hp.p3]); go_big_quiet_on) | (go_big_quiet_want; refine Hp.quiet_val _ (fun W hW => by have F := Hp.Sh.facts hW; have hd := Hp.Sh.data hW; (try simp only [Hp.Facts, Hp.CellsAt, Nat.reduceAdd, Hp.c1, Hp.c2] at F); have hcs := HC.out _ hd; go_simp) ?_; (try simp only [Act.put, Hp.p1, Hp.p2, Hp.p3]); go_big_quiet_on))
          iterate 4 (first | go_big_quiet_skip | (go_big_quiet_want; go_big_quiet_op; first | go_big_quiet_on | (refine ⟨_, fun _ _ => rfl, ?_⟩; go_big_quiet_on)))
          (first | go_big_quiet_skip | (go_big_quiet_want; refine Hp.quiet_val _ (fun W hW => by have F := Hp.Sh.facts hW; have hd := Hp.Sh.data hW; (try simp only [Hp.Facts, Hp.CellsAt, Nat.reduceAdd, Hp.c1, Hp.c2] at F); have hcs := HC.out _ hd; go_simp; rfl) ?_; (try simp only [Act.put, Hp.p1, Hp.p2, Hp.p3]); go_big_quiet_on) | (go_big_quiet_want; refine Hp.quiet_val _ (fun W hW => by have F := Hp.Sh.facts hW; have hd := Hp.Sh.data hW; (try simp only [Hp.Facts, Hp.CellsAt, Nat.reduceAdd, Hp.c1, Hp.c2] at F); have hcs := HC.out _ hd; go_simp) ?_; (try simp only [Act.put, Hp.p1, Hp.p2, Hp.p3]); go_big_quiet_on))
          iterate 5 (first | go_big_quiet_skip | (go_big_quiet_want; go_big_quiet_op; first | go_big_quiet_on | (refine ⟨_, fun _ _ => rfl, ?_⟩; go_big_quiet_on)))
          refine wpQuiet_nil ?_; intro w1 sh; have F := sh.fx
          go_wp2_with (first
              | ((with_reducible first | refine Hp.wpl_box sh ?_ ?_ | refine Hp.atl_store ?_ ?_); exact rfl; (try (refine Hp.wsB sh ?_)); clear sh; (try clear F); go_simp; (first | intro b w1 sh | intro w1 sh); have F := sh.fx)
              | fail)
          go_ret
          exact ⟨ret_bool HO.out.symm, sh.below⟩
        | true =>
          rw [hi, Bool.true_and] at hok
          rw [hi] at H1
          have H2 := Lib.hid H1
          have hwq : q ≠ 0 → IntKind.u64.wrap (q - 1) = q - 1 := fun h => by simp [IntKind.wrap, IntKind.bits, IntKind.signed]; omega
          unfold EvP.fol at hok
          by_cases hq : q = 0
          · subst hq
            have e1 : ((0 : Int) == 0) = true := rfl
            have HO := Lib.hid (EvP.runB_false hkL (by rw [hok]; rfl))
            clear H1 hx hok hi hkL hwq
            go_wp2_with (first
                | ((with_reducible first | refine Hp.wpl_box sh ?_ ?_ | refine Hp.atl_store ?_ ?_); exact rfl; (try (refine Hp.wsB sh ?_)); clear sh; (try clear F); go_simp; (first | intro b w1 sh | intro w1 sh); have F := sh.fx)
                | fail)
            refine wp_region_quiet (C := Hp.Cls _ _ _) (by kernel_rfl) (by kernel_rfl) sh.drew ?_; clear sh; (try clear F)
            (try simp only [])
            iterate 3 (first | go_big_quiet_skip | (go_big_quiet_want; go_big_quiet_op; first | go_big_quiet_on | (refine ⟨_, fun _ _ => rfl, ?_⟩; go_big_quiet_on)))
            (first | go_big_quiet_skip | (go_big_quiet_want; refine Hp.quiet_val _ (fun W hW => by have F := Hp.Sh.facts hW; have hd := Hp.Sh.data hW; (try simp only [Hp.Facts, Hp.CellsAt, Nat.reduceAdd, Hp.c1, Hp.c2] at F); have hcs := HC.out _ hd; have hds := HD.out _ hd; go_simp; rfl) ?_; (try simp only [Act.put, Hp.p1, Hp.p2, Hp.p3]); go_big_quiet_on) | (go_big_quiet_want; refine Hp.quiet_val _ (fun W hW => by have F := Hp.Sh.facts hW; have hd := Hp.Sh.data hW; (try simp only [Hp.Facts, Hp.CellsAt, Nat.reduceAdd, Hp.c1, Hp.c2] at F); have hcs := HC.out _ hd; have hds := HD.out _ hd; go_simp) ?_; (try simp only [Act.put, Hp.p1, Hp.p2, Hp.p3]); go_big_quiet_on))
            (go_big_quiet_want; refine Hp.quiet_call _ _ _ (fun W hW => by go_simp) (fun W hW => H2.out W) ?_; (try simp only [Act.put, Hp.p1, Hp.p2, Hp.p3]); go_big_quiet_on)
            iterate 9 (first | go_big_quiet_skip | (go_big_quiet_want; go_big_quiet_op; first | go_big_quiet_on | (refine ⟨_, fun _ _ => rfl, ?_⟩; go_big_quiet_on)))
            (first | go_big_quiet_skip | (go_big_quiet_want; refine Hp.quiet_val _ (fun W hW => by have F := Hp.Sh.facts hW; have hd := Hp.Sh.data hW; (try simp only [Hp.Facts, Hp.CellsAt, Nat.reduceAdd, Hp.c1, Hp.c2] at F); have hcs := HC.out _ hd; have hds := HD.out _ hd; go_simp; rfl) ?_; (try simp only [Act.put, Hp.p1, Hp.p2, Hp.p3]); go_big_quiet_on) | (go_big_quiet_want; refine Hp.quiet_val _ (fun W hW => by have F := Hp.Sh.facts hW; have hd := Hp.Sh.data hW; (try simp only [Hp.Facts, Hp.CellsAt, Nat.reduceAdd, Hp.c1, Hp.c2] at F); have hcs := HC.out _ hd; have hds := HD.out _ hd; go_simp) ?_; (try simp only [Act.put, Hp.p1, Hp.p2, Hp.p3]); go_big_quiet_on))
            iterate 7 (first | go_big_quiet_skip | (go_big_quiet_want; go_big_quiet_op; first | go_big_quiet_on | (refine ⟨_, fun _ _ => rfl, ?_⟩; go_big_quiet_on)))
            (first | go_big_quiet_skip | (go_big_quiet_want; refine Hp.quiet_val _ (fun W hW => by have F := Hp.Sh.facts hW; have hd := Hp.Sh.data hW; (try simp only [Hp.Facts, Hp.CellsAt, Nat.reduceAdd, Hp.c1, Hp.c2] at F); have hcs := HC.out _ hd; have hds := HD.out _ hd; go_simp; rfl) ?_; (try simp only [Act.put, Hp.p1, Hp.p2, Hp.p3]); go_big_quiet_on) | (go_big_quiet_want; refine Hp.quiet_val _ (fun W hW => by have F := Hp.Sh.facts hW; have hd := Hp.Sh.data hW; (try simp only [Hp.Facts, Hp.CellsAt, Nat.reduceAdd, Hp.c1, Hp.c2] at F); have hcs := HC.out _ hd; have hds := HD.out _ hd; go_simp) ?_; (try simp only [Act.put, Hp.p1, Hp.p2, Hp.p3]); go_big_quiet_on))
            iterate 4 (first | go_big_quiet_skip | (go_big_quiet_want; go_big_quiet_op; first | go_big_quiet_on | (refine ⟨_, fun _ _ => rfl, ?_⟩; go_big_quiet_on)))
            (first | go_big_quiet_skip | (go_big_quiet_want; refine Hp.quiet_val _ (fun W hW => by have F := Hp.Sh.facts hW; have hd := Hp.Sh.data hW; (try simp only [Hp.Facts, Hp.CellsAt, Nat.reduceAdd, Hp.c1, Hp.c2] at F); have hcs := HC.out _ hd; have hds := HD.out _ hd; go_simp; rfl) ?_; (try simp only [Act.put, Hp.p1, Hp.p2, Hp.p3]); go_big_quiet_on) | (go_big_quiet_want; refine Hp.quiet_val _ (fun W hW => by have F := Hp.Sh.facts hW; have hd := Hp.Sh.data hW; (try simp only [Hp.Facts, Hp.CellsAt, Nat.reduceAdd, Hp.c1, Hp.c2] at F); have hcs := HC.out _ hd; have hds := HD.out _ hd; go_simp) ?_; (try simp only [Act.put, Hp.p1, Hp.p2, Hp.p3]); go_big_quiet_on))
            iterate 5 (first | go_big_quiet_skip | (go_big_quiet_want; go_big_quiet_op; first | go_big_quiet_on | (refine ⟨_, fun _ _ => rfl, ?_⟩; go_big_quiet_on)))
            refine wpQuiet_nil ?_; intro w1 sh; have F := sh.fx
            go_wp2_with (first
                | ((with_reducible first | refine Hp.wpl_box sh ?_ ?_ | refine Hp.atl_store ?_ ?_); exact rfl; (try (refine Hp.wsB sh ?_)); clear sh; (try clear F); go_simp; (first | intro b w1 sh | intro w1 sh); have F := sh.fx)
                | fail)
            go_ret
            exact ⟨ret_bool HO.out.symm, sh.below⟩
          · have e1 : (q == 0) = false := by rw [beq_eq_false_iff_ne]; exact hq
            have hwq := hwq hq
            by_cases hxq : x = q - 1
            · have e2 : (x != q - 1) = false := by rw [hxq]; simp
              have HO := Lib.hid (EvP.ok_step HM.out (by rw [hok, hxq]; simp [hq]))
              clear H1 hx hok hi hkL hxq
              go_wp2_with (first
                  | ((with_reducible first | refine Hp.wpl_box sh ?_ ?_ | refine Hp.atl_store ?_ ?_); exact rfl; (try (refine Hp.wsB sh ?_)); clear sh; (try clear F); go_simp; (first | intro b w1 sh | intro w1 sh); have F := sh.fx)
                  | fail)
              refine wp_region_quiet (C := Hp.Cls _ _ _) (by kernel_rfl) (by kernel_rfl) sh.drew ?_; clear sh; (try clear F)
              (try simp only [])
              iterate 3 (first | go_big_quiet_skip | (go_big_quiet_want; go_big_quiet_op; first | go_big_quiet_on | (refine ⟨_, fun _ _ => rfl, ?_⟩; go_big_quiet_on)))
              (first | go_big_quiet_skip | (go_big_quiet_want; refine Hp.quiet_val _ (fun W hW => by have F := Hp.Sh.facts hW; have hd := Hp.Sh.data hW; (try simp only [Hp.Facts, Hp.CellsAt, Nat.reduceAdd, Hp.c1, Hp.c2] at F); have hcs := HC.out _ hd; have hds := HD.out _ hd; go_simp; rfl) ?_; (try simp only [Act.put, Hp.p1, Hp.p2, Hp.p3]); go_big_quiet_on) | (go_big_quiet_want; refine Hp.quiet_val _ (fun W hW => by have F := Hp.Sh.facts hW; have hd := Hp.Sh.data hW; (try simp only [Hp.Facts, Hp.CellsAt, Nat.reduceAdd, Hp.c1, Hp.c2] at F); have hcs := HC.out _ hd; have hds := HD.out _ hd; go_simp) ?_; (try simp only [Act.put, Hp.p1, Hp.p2, Hp.p3]); go_big_quiet_on))
              (go_big_quiet_want; refine Hp.quiet_call _ _ _ (fun W hW => by go_simp) (fun W hW => H2.out W) ?_; (try simp only [Act.put, Hp.p1, Hp.p2, Hp.p3]); go_big_quiet_on)
              iterate 9 (first | go_big_quiet_skip | (go_big_quiet_want; go_big_quiet_op; first | go_big_quiet_on | (refine ⟨_, fun _ _ => rfl, ?_⟩; go_big_quiet_on)))
              (first | go_big_quiet_skip | (go_big_quiet_want; refine Hp.quiet_val _ (fun W hW => by have F := Hp.Sh.facts hW; have hd := Hp.Sh.data hW; (try simp only [Hp.Facts, Hp.CellsAt, Nat.reduceAdd, Hp.c1, Hp.c2] at F); have hcs := HC.out _ hd; have hds := HD.out _ hd; go_simp; rfl) ?_; (try simp only [Act.put, Hp.p1, Hp.p2, Hp.p3]); go_big_quiet_on) | (go_big_quiet_want; refine Hp.quiet_val _ (fun W hW => by have F := Hp.Sh.facts hW; have hd := Hp.Sh.data hW; (try simp only [Hp.Facts, Hp.CellsAt, Nat.reduceAdd, Hp.c1, Hp.c2] at F); have hcs := HC.out _ hd; have hds := HD.out _ hd; go_simp) ?_; (try simp only [Act.put, Hp.p1, Hp.p2, Hp.p3]); go_big_quiet_on))
              iterate 7 (first | go_big_quiet_skip | (go_big_quiet_want; go_big_quiet_op; first | go_big_quiet_on | (refine ⟨_, fun _ _ => rfl, ?_⟩; go_big_quiet_on)))
              (first | go_big_quiet_skip | (go_big_quiet_want; refine Hp.quiet_val _ (fun W hW => by have F := Hp.Sh.facts hW; have hd := Hp.Sh.data hW; (try simp only [Hp.Facts, Hp.CellsAt, Nat.reduceAdd, Hp.c1, Hp.c2] at F); have hcs := HC.out _ hd; have hds := HD.out _ hd; go_simp; rfl) ?_; (try simp only [Act.put, Hp.p1, Hp.p2, Hp.p3]); go_big_quiet_on) | (go_big_quiet_want; refine Hp.quiet_val _ (fun W hW => by have F := Hp.Sh.facts hW; have hd := Hp.Sh.data hW; (try simp only [Hp.Facts, Hp.CellsAt, Nat.reduceAdd, Hp.c1, Hp.c2] at F); have hcs := HC.out _ hd; have hds := HD.out _ hd; go_simp) ?_; (try simp only [Act.put, Hp.p1, Hp.p2, Hp.p3]); go_big_quiet_on))
              iterate 4 (first | go_big_quiet_skip | (go_big_quiet_want; go_big_quiet_op; first | go_big_quiet_on | (refine ⟨_, fun _ _ => rfl, ?_⟩; go_big_quiet_on)))
              (first | go_big_quiet_skip | (go_big_quiet_want; refine Hp.quiet_val _ (fun W hW => by have F := Hp.Sh.facts hW; have hd := Hp.Sh.data hW; (try simp only [Hp.Facts, Hp.CellsAt, Nat.reduceAdd, Hp.c1, Hp.c2] at F); have hcs := HC.out _ hd; have hds := HD.out _ hd; go_simp; rfl) ?_; (try simp only [Act.put, Hp.p1, Hp.p2, Hp.p3]); go_big_quiet_on) | (go_big_quiet_want; refine Hp.quiet_val _ (fun W hW => by have F := Hp.Sh.facts hW; have hd := Hp.Sh.data hW; (try simp only [Hp.Facts, Hp.CellsAt, Nat.reduceAdd, Hp.c1, Hp.c2] at F); have hcs := HC.out _ hd; have hds := HD.out _ hd; go_simp) ?_; (try simp only [Act.put, Hp.p1, Hp.p2, Hp.p3]); go_big_quiet_on))
              iterate 5 (first | go_big_quiet_skip | (go_big_quiet_want; go_big_quiet_op; first | go_big_quiet_on | (refine ⟨_, fun _ _ => rfl, ?_⟩; go_big_quiet_on)))
              refine wpQuiet_nil ?_; intro w1 sh; have F := sh.fx
              go_wp2_with (first
                  | ((with_reducible first | refine Hp.wpl_box sh ?_ ?_ | refine Hp.atl_store ?_ ?_); exact rfl; (try (refine Hp.wsB sh ?_)); clear sh; (try clear F); go_simp; (first | intro b w1 sh | intro w1 sh); have F := sh.fx)
                  | fail)
              go_roundw
              case rel => exact ⟨j + 2, by go_num, by omega, HO.out, sh⟩
              case measure => simp [intOf]; omega
            · have e2 : (x != q - 1) = true := by rw [bne_iff_ne]; exact hxq
              have HO := Lib.hid (EvP.runB_false hkL (by rw [hok]; simp [hxq]))
              clear H1 hx hok hi hkL hxq
              go_wp2_with (first
                  | ((with_reducible first | refine Hp.wpl_box sh ?_ ?_ | refine Hp.atl_store ?_ ?_); exact rfl; (try (refine Hp.wsB sh ?_)); clear sh; (try clear F); go_simp; (first | intro b w1 sh | intro w1 sh); have F := sh.fx)
                  | fail)
              refine wp_region_quiet (C := Hp.Cls _ _ _) (by kernel_rfl) (by kernel_rfl) sh.drew ?_; clear sh; (try clear F)
              (try simp only [])
              iterate 3 (first | go_big_quiet_skip | (go_big_quiet_want; go_big_quiet_op; first | go_big_quiet_on | (refine ⟨_, fun _ _ => rfl, ?_⟩; go_big_quiet_on)))
              (first | go_big_quiet_skip | (go_big_quiet_want; refine Hp.quiet_val _ (fun W hW => by have F := Hp.Sh.facts hW; have hd := Hp.Sh.data hW; (try simp only [Hp.Facts, Hp.CellsAt, Nat.reduceAdd, Hp.c1, Hp.c2] at F); have hcs := HC.out _ hd; have hds := HD.out _ hd; go_simp; rfl) ?_; (try simp only [Act.put, Hp.p1, Hp.p2, Hp.p3]); go_big_quiet_on) | (go_big_quiet_want; refine Hp.quiet_val _ (fun W hW => by have F := Hp.Sh.facts hW; have hd := Hp.Sh.data hW; (try simp only [Hp.Facts, Hp.CellsAt, Nat.reduceAdd, Hp.c1, Hp.c2] at F); have hcs := HC.out _ hd; have hds := HD.out _ hd; go_simp) ?_; (try simp only [Act.put, Hp.p1, Hp.p2, Hp.p3]); go_big_quiet_on))
              (go_big_quiet_want; refine Hp.quiet_call _ _ _ (fun W hW => by go_simp) (fun W hW => H2.out W) ?_; (try simp only [Act.put, Hp.p1, Hp.p2, Hp.p3]); go_big_quiet_on)
              iterate 9 (first | go_big_quiet_skip | (go_big_quiet_want; go_big_quiet_op; first | go_big_quiet_on | (refine ⟨_, fun _ _ => rfl, ?_⟩; go_big_quiet_on)))
              (first | go_big_quiet_skip | (go_big_quiet_want; refine Hp.quiet_val _ (fun W hW => by have F := Hp.Sh.facts hW; have hd := Hp.Sh.data hW; (try simp only [Hp.Facts, Hp.CellsAt, Nat.reduceAdd, Hp.c1, Hp.c2] at F); have hcs := HC.out _ hd; have hds := HD.out _ hd; go_simp; rfl) ?_; (try simp only [Act.put, Hp.p1, Hp.p2, Hp.p3]); go_big_quiet_on) | (go_big_quiet_want; refine Hp.quiet_val _ (fun W hW => by have F := Hp.Sh.facts hW; have hd := Hp.Sh.data hW; (try simp only [Hp.Facts, Hp.CellsAt, Nat.reduceAdd, Hp.c1, Hp.c2] at F); have hcs := HC.out _ hd; have hds := HD.out _ hd; go_simp) ?_; (try simp only [Act.put, Hp.p1, Hp.p2, Hp.p3]); go_big_quiet_on))
              iterate 7 (first | go_big_quiet_skip | (go_big_quiet_want; go_big_quiet_op; first | go_big_quiet_on | (refine ⟨_, fun _ _ => rfl, ?_⟩; go_big_quiet_on)))
              (first | go_big_quiet_skip | (go_big_quiet_want; refine Hp.quiet_val _ (fun W hW => by have F := Hp.Sh.facts hW; have hd := Hp.Sh.data hW; (try simp only [Hp.Facts, Hp.CellsAt, Nat.reduceAdd, Hp.c1, Hp.c2] at F); have hcs := HC.out _ hd; have hds := HD.out _ hd; go_simp; rfl) ?_; (try simp only [Act.put, Hp.p1, Hp.p2, Hp.p3]); go_big_quiet_on) | (go_big_quiet_want; refine Hp.quiet_val _ (fun W hW => by have F := Hp.Sh.facts hW; have hd := Hp.Sh.data hW; (try simp only [Hp.Facts, Hp.CellsAt, Nat.reduceAdd, Hp.c1, Hp.c2] at F); have hcs := HC.out _ hd; have hds := HD.out _ hd; go_simp) ?_; (try simp only [Act.put, Hp.p1, Hp.p2, Hp.p3]); go_big_quiet_on))
              iterate 4 (first | go_big_quiet_skip | (go_big_quiet_want; go_big_quiet_op; first | go_big_quiet_on | (refine ⟨_, fun _ _ => rfl, ?_⟩; go_big_quiet_on)))
              (first | go_big_quiet_skip | (go_big_quiet_want; refine Hp.quiet_val _ (fun W hW => by have F := Hp.Sh.facts hW; have hd := Hp.Sh.data hW; (try simp only [Hp.Facts, Hp.CellsAt, Nat.reduceAdd, Hp.c1, Hp.c2] at F); have hcs := HC.out _ hd; have hds := HD.out _ hd; go_simp; rfl) ?_; (try simp only [Act.put, Hp.p1, Hp.p2, Hp.p3]); go_big_quiet_on) | (go_big_quiet_want; refine Hp.quiet_val _ (fun W hW => by have F := Hp.Sh.facts hW; have hd := Hp.Sh.data hW; (try simp only [Hp.Facts, Hp.CellsAt, Nat.reduceAdd, Hp.c1, Hp.c2] at F); have hcs := HC.out _ hd; have hds := HD.out _ hd; go_simp) ?_; (try simp only [Act.put, Hp.p1, Hp.p2, Hp.p3]); go_big_quiet_on))
              iterate 5 (first | go_big_quiet_skip | (go_big_quiet_want; go_big_quiet_op; first | go_big_quiet_on | (refine ⟨_, fun _ _ => rfl, ?_⟩; go_big_quiet_on)))
              refine wpQuiet_nil ?_; intro w1 sh; have F := sh.fx
              go_wp2_with (first
                  | ((with_reducible first | refine Hp.wpl_box sh ?_ ?_ | refine Hp.atl_store ?_ ?_); exact rfl; (try (refine Hp.wsB sh ?_)); clear sh; (try clear F); go_simp; (first | intro b w1 sh | intro w1 sh); have F := sh.fx)
                  | fail)
              go_ret
              exact ⟨ret_bool HO.out.symm, sh.below⟩
    · have hE : k = L.length := by rw [← HL.out]; omega
      have HO := Lib.hid (EvP.runB_true hE HM.out)
      go_wp2_with (first
          | ((with_reducible first | refine Hp.wpl_box sh ?_ ?_ | refine Hp.atl_store ?_ ?_); exact rfl; (try (refine Hp.wsB sh ?_)); clear sh; (try clear F); go_simp; (first | intro b w1 sh | intro w1 sh); have F := sh.fx)
          | fail)
      go_ret
      exact ⟨ret_bool HO.out.symm, sh.below⟩

end Go.Proofs.YtfcffglgkblidaaDoor
