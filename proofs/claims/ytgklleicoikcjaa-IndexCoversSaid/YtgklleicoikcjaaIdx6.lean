
/-
  The walks of the chapter's example, and of IndexBack.
-/
import Derived.Test.YtgklleicoikcjaaIdx5
namespace Go.Proofs.Ytgklleicoikcjaa
open Go.RowKit
set_option linter.unusedVariables false
set_option linter.unusedSimpArgs false
namespace IdxP
def exL : List QryP.Ev := [(7, 5, -1, 1, 0, 0), (8, 2, 3, 2, 0, 0), (9, 9, 31, 8, 0, 0)]
def exB : List Bk := [(0, 2, 7, 2, 5, 17, 6), (2, 1, 9, 9, 9, 4294967296, 256)]
def exP : List Bk := [(0, 1, 300, 0, 0, 0, 0)]
theorem ex_build : QryP.build 2 exL = (exB, 0) := by kernel_rfl
theorem ex_build0 : QryP.build 0 [] = ([], 1) := by kernel_rfl
theorem ex_ev : ∀ x ∈ exL, EvP.EvB x := by
  intro x hx
  simp only [exL, List.mem_cons, List.not_mem_nil, or_false] at hx
  rcases hx with rfl | rfl | rfl <;> (unfold EvP.EvB; decide)
theorem ex_pb : ∀ x ∈ exP, BkB x := by
  intro x hx
  simp only [exP, List.mem_cons, List.not_mem_nil, or_false] at hx
  subst hx
  unfold BkB; decide
theorem put0 : WireP.putL 0 = [0] := WireP.putL_small (by decide)
theorem put1 : WireP.putL 1 = [1] := WireP.putL_small (by decide)
theorem put300 : WireP.putL 300 = [172, 2] := by rw [WireP.putL_big (by decide), WireP.putL_small (by decide)]; rfl
theorem ex_put : putI exP = ([1, 0, 1, 172, 2, 0, 0, 0, 0], 0) := by
  unfold putI
  rw [if_neg (by decide), if_pos (by decide)]
  show (WireP.putL 1 ++ (putB (0, 1, 300, 0, 0, 0, 0) ++ []), (0 : Int)) = _
  show (WireP.putL 1 ++ ((WireP.putL 0 ++ (WireP.putL 1 ++ (WireP.putL 300 ++ (WireP.putL 0 ++ (WireP.putL 0 ++ (WireP.putL 0 ++ (WireP.putL 0 ++ []))))))) ++ []), (0 : Int)) = _
  rw [put0, put1, put300]
  rfl
theorem ex_get : getI [1, 0] = ([], 4) := by rfl
theorem put_len {l : List Bk} (hB : ∀ b ∈ l, BkB b) : (putI l).1.length ≤ 900000 := by
  unfold putI
  split
  · simp
  · rename_i h1
    split
    · rename_i h2
      have key : ∀ m : List Bk, (∀ b ∈ m, BkB b ∧ fitB b = true) → (m.flatMap putB).length ≤ 70 * m.length := by
        intro m
        induction m with
        | nil => intro _; simp
        | cons b r ih =>
          intro h
          have q := ih (fun x hx => h x (by simp [hx]))
          have p := putB_len (h b (by simp)).1 (h b (by simp)).2
          rw [List.flatMap_cons, List.length_append, List.length_cons]
          omega
      have k := key l (fun b hb => ⟨hB b hb, List.all_eq_true.1 h2 b hb⟩)
      have p := WireP.putL_le10 l.length (by omega)
      dsimp only
      rw [List.length_append]
      omega
    · simp
end IdxP
theorem kbuild14 (bl : Nat) (w : World) (q : Hp.RdV w (some ⟨bl, 0, none⟩) (IdxP.exL.flatMap EvP.evc)) : Calls Try.prog 6 #[.int .i64 2, .slice (some ⟨bl, 0, none⟩) 3 3] w fun e w' => ∃ p c, e = .returned (.tuple #[.slice (some p) 2 c, .int .i64 0]) ∧ (∀ p', some p = some p' → w.heap.size ≤ p'.block) ∧ Hp.RdV w' (some p) (IdxP.exB.flatMap QryP.bc) ∧ Below w.heap.size w w' := by
  have h := qbuild 2 (some ⟨bl, 0, none⟩) IdxP.exL 3 3 rfl (by decide) (by decide) IdxP.ex_ev w q
  rw [IdxP.ex_build] at h
  refine h.mono ?_
  rintro e w' ⟨s, c, rfl, h1, h2, h3, h4, h5, h6⟩
  obtain ⟨p, rfl, -⟩ := h2 (by decide)
  exact ⟨p, c, rfl, h1, h2, h3⟩
theorem kbuild0 (w : World) : Calls Try.prog 6 #[.int .i64 0, .slice none 0 0] w fun e w' => ∃ s c, e = .returned (.tuple #[.slice s 0 c, .int .i64 1]) ∧ Below w.heap.size w w' := by
  have h := qbuild 0 none [] 0 0 rfl (by decide) (by decide) (fun _ h => by cases h) w (Hp.RdV.nil _ _)
  rw [IdxP.ex_build0] at h
  refine h.mono ?_
  rintro e w' ⟨s, c, rfl, h1, h2, h3, h4, h5, h6⟩
  exact ⟨s, c, rfl, h3⟩
theorem kput14 (bl : Nat) (w : World) (q : Hp.RdV w (some ⟨bl, 0, none⟩) (IdxP.exP.flatMap QryP.bc)) : Calls Try.prog 11 #[.slice (some ⟨bl, 0, none⟩) 1 1] w fun e w' => e = .returned (.tuple #[.string ⟨#[1, 0, 1, 172, 2, 0, 0, 0, 0]⟩, .int .i64 0]) ∧ Below w.heap.size w w' := by
  have h := iput14 (some ⟨bl, 0, none⟩) IdxP.exP 1 1 rfl (by decide) IdxP.ex_pb w q
  unfold IdxP.PutP at h
  rw [IdxP.ex_put] at h
  exact h
theorem kget14 (w : World) : Calls Try.prog 12 #[.string ⟨#[1, 0]⟩] w fun e w' => ∃ s c, e = .returned (.tuple #[.slice s 0 c, .int .i64 4]) ∧ Below w.heap.size w w' := by
  have h := iget14 [1, 0] (by decide) w
  rw [IdxP.ex_get] at h
  refine Calls.mono h ?_
  rintro e w' ⟨s, c, rfl, h1, h2, h3, h4, h5, h6⟩
  exact ⟨s, c, rfl, h3⟩

set_option maxHeartbeats 4000000 in
set_option maxRecDepth 100000 in
theorem iindexed (w : World) : Calls Try.prog 7 #[] w fun e w' => e = .returned (.bool true) ∧ Below w.heap.size w w' := by
  have sh : Hp.Sh w w [] (fun _ => True) := Hp.Sh.start (fun _ _ => trivial)
  have KB := Lib.hid (fun bl W q => kbuild14 bl W q)
  have KB0 := Lib.hid (fun W => kbuild0 W)
  have KP := Lib.hid (fun bl W q => kput14 bl W q)
  have KG := Lib.hid (fun W => kget14 W)
  have KS := Lib.hid (fun s1 s2 c1 c2 W q1 q2 => isame s1 s2 IdxP.exB 2 c1 c2 rfl (by decide) W q1 q2)
  go_enter Try.func7, Try.ntmps7
  go_wp2_with (first
      | ((with_reducible refine Hp.atl_lit ?_ ?_); exact rfl; (refine wp_lits (m := 3) (c := #[.int .u64 7, .int .i64 5, .int .i64 (-1), .int .i64 1, .int .i64 0, .int .i64 0, .int .u64 8, .int .i64 2, .int .i64 3, .int .i64 2, .int .i64 0, .int .i64 0, .int .u64 9, .int .i64 9, .int .i64 31, .int .i64 8, .int .i64 0, .int .i64 0]) (t := 33) (fun w => by kernel_rfl) sh ?_); clear sh; (try clear F); intro be w1 sh; replace sh := sh.freeze1 (vs := IdxP.exL.flatMap EvP.evc) (fun i v h => by simpa [EvP.evc, IdxP.exL] using h); (have F := sh.facts; (try simp only [Hp.Facts, Hp.CellsAt, Nat.reduceAdd, List.cons_append, List.nil_append] at F)); go_simp)
      | ((with_reducible refine Hp.wpl_box sh ?_ ?_); exact rfl; clear sh; (try clear F); go_simp; intro b w1 sh; have F := sh.facts; (try simp only [Hp.Facts, Hp.CellsAt, Nat.reduceAdd, List.cons_append, List.nil_append] at F))
      | ((with_reducible refine Hp.wpl_alloc Try.z_ev sh ?_ ?_); exact rfl; clear sh; (try clear F); go_simp; intro b w1 sh; have F := sh.facts; (try simp only [Hp.Facts, Hp.CellsAt, Nat.reduceAdd, List.cons_append, List.nil_append] at F))
      | ((with_reducible refine Hp.wpl_alloc Try.z_blk sh ?_ ?_); exact rfl; clear sh; (try clear F); go_simp; intro b w1 sh; have F := sh.facts; (try simp only [Hp.Facts, Hp.CellsAt, Nat.reduceAdd, List.cons_append, List.nil_append] at F))
      | ((with_reducible refine Hp.atl_store ?_ ?_); exact rfl; (first | refine Hp.wp_store 0 sh rfl rfl rfl rfl (by kernel_rfl) (Nat.le_of_ble_eq_true rfl) rfl ?_ | refine Hp.wp_store 1 sh rfl rfl rfl rfl (by kernel_rfl) (Nat.le_of_ble_eq_true rfl) rfl ?_ | refine Hp.wp_store 2 sh rfl rfl rfl rfl (by kernel_rfl) (Nat.le_of_ble_eq_true rfl) rfl ?_ | refine Hp.wp_store 3 sh rfl rfl rfl rfl (by kernel_rfl) (Nat.le_of_ble_eq_true rfl) rfl ?_ | refine Hp.wp_store 4 sh rfl rfl rfl rfl (by kernel_rfl) (Nat.le_of_ble_eq_true rfl) rfl ?_ | refine Hp.wp_store 5 sh rfl rfl rfl rfl (by kernel_rfl) (Nat.le_of_ble_eq_true rfl) rfl ?_ | refine Hp.wp_store 6 sh rfl rfl rfl rfl (by kernel_rfl) (Nat.le_of_ble_eq_true rfl) rfl ?_); clear sh; (try clear F); go_simp; intro w1 sh; have F := sh.facts; (try simp only [Hp.Facts, Hp.CellsAt, Nat.reduceAdd, List.cons_append, List.nil_append] at F))
      | fail)
  go_fit (KB.out be _ sh.data.1)
  rintro e w1 ⟨pb, cb, rfl, hn9, hr9, hb9⟩
  replace sh := Hp.gain sh hb9 hn9 hr9
  clear hn9 hr9 hb9
  have F : True := trivial
  go_wp2_with (first
      | ((with_reducible refine Hp.wpl_box sh ?_ ?_); exact rfl; clear sh; (try clear F); go_simp; intro b w1 sh; have F := sh.facts; (try simp only [Hp.Facts, Hp.CellsAt, Nat.reduceAdd, List.cons_append, List.nil_append] at F))
      | ((with_reducible refine Hp.wpl_alloc Try.z_ev sh ?_ ?_); exact rfl; clear sh; (try clear F); go_simp; intro b w1 sh; have F := sh.facts; (try simp only [Hp.Facts, Hp.CellsAt, Nat.reduceAdd, List.cons_append, List.nil_append] at F))
      | ((with_reducible refine Hp.wpl_alloc Try.z_blk sh ?_ ?_); exact rfl; clear sh; (try clear F); go_simp; intro b w1 sh; have F := sh.facts; (try simp only [Hp.Facts, Hp.CellsAt, Nat.reduceAdd, List.cons_append, List.nil_append] at F))
      | ((with_reducible refine Hp.atl_store ?_ ?_); exact rfl; (first | refine Hp.wp_store 0 sh rfl rfl rfl rfl (by kernel_rfl) (Nat.le_of_ble_eq_true rfl) rfl ?_ | refine Hp.wp_store 1 sh rfl rfl rfl rfl (by kernel_rfl) (Nat.le_of_ble_eq_true rfl) rfl ?_ | refine Hp.wp_store 2 sh rfl rfl rfl rfl (by kernel_rfl) (Nat.le_of_ble_eq_true rfl) rfl ?_ | refine Hp.wp_store 3 sh rfl rfl rfl rfl (by kernel_rfl) (Nat.le_of_ble_eq_true rfl) rfl ?_ | refine Hp.wp_store 4 sh rfl rfl rfl rfl (by kernel_rfl) (Nat.le_of_ble_eq_true rfl) rfl ?_ | refine Hp.wp_store 5 sh rfl rfl rfl rfl (by kernel_rfl) (Nat.le_of_ble_eq_true rfl) rfl ?_ | refine Hp.wp_store 6 sh rfl rfl rfl rfl (by kernel_rfl) (Nat.le_of_ble_eq_true rfl) rfl ?_); clear sh; (try clear F); go_simp; intro w1 sh; have F := sh.facts; (try simp only [Hp.Facts, Hp.CellsAt, Nat.reduceAdd, List.cons_append, List.nil_append] at F))
      | fail)
  go_fit (KB0.out _)
  rintro e w1 ⟨s0, c0, rfl, hb9⟩; replace sh := sh.call hb9; clear hb9
  go_wp2_with (first
      | ((with_reducible refine Hp.atl_lit ?_ ?_); exact rfl; (refine wp_lits (m := 1) (c := #[.int .i64 0, .int .i64 1, .int .u64 300, .int .i64 0, .int .i64 0, .int .u64 0, .int .u64 0]) (t := 31) (fun w => by kernel_rfl) sh ?_); clear sh; (try clear F); intro bp w1 sh; replace sh := sh.freeze1 (vs := IdxP.exP.flatMap QryP.bc) (fun i v h => by simpa [QryP.bc, IdxP.exP] using h); (have F := sh.facts; (try simp only [Hp.Facts, Hp.CellsAt, Nat.reduceAdd, List.cons_append, List.nil_append] at F)); go_simp)
      | ((with_reducible refine Hp.wpl_box sh ?_ ?_); exact rfl; clear sh; (try clear F); go_simp; intro b w1 sh; have F := sh.facts; (try simp only [Hp.Facts, Hp.CellsAt, Nat.reduceAdd, List.cons_append, List.nil_append] at F))
      | ((with_reducible refine Hp.wpl_alloc Try.z_ev sh ?_ ?_); exact rfl; clear sh; (try clear F); go_simp; intro b w1 sh; have F := sh.facts; (try simp only [Hp.Facts, Hp.CellsAt, Nat.reduceAdd, List.cons_append, List.nil_append] at F))
      | ((with_reducible refine Hp.wpl_alloc Try.z_blk sh ?_ ?_); exact rfl; clear sh; (try clear F); go_simp; intro b w1 sh; have F := sh.facts; (try simp only [Hp.Facts, Hp.CellsAt, Nat.reduceAdd, List.cons_append, List.nil_append] at F))
      | ((with_reducible refine Hp.atl_store ?_ ?_); exact rfl; (first | refine Hp.wp_store 0 sh rfl rfl rfl rfl (by kernel_rfl) (Nat.le_of_ble_eq_true rfl) rfl ?_ | refine Hp.wp_store 1 sh rfl rfl rfl rfl (by kernel_rfl) (Nat.le_of_ble_eq_true rfl) rfl ?_ | refine Hp.wp_store 2 sh rfl rfl rfl rfl (by kernel_rfl) (Nat.le_of_ble_eq_true rfl) rfl ?_ | refine Hp.wp_store 3 sh rfl rfl rfl rfl (by kernel_rfl) (Nat.le_of_ble_eq_true rfl) rfl ?_ | refine Hp.wp_store 4 sh rfl rfl rfl rfl (by kernel_rfl) (Nat.le_of_ble_eq_true rfl) rfl ?_ | refine Hp.wp_store 5 sh rfl rfl rfl rfl (by kernel_rfl) (Nat.le_of_ble_eq_true rfl) rfl ?_ | refine Hp.wp_store 6 sh rfl rfl rfl rfl (by kernel_rfl) (Nat.le_of_ble_eq_true rfl) rfl ?_); clear sh; (try clear F); go_simp; intro w1 sh; have F := sh.facts; (try simp only [Hp.Facts, Hp.CellsAt, Nat.reduceAdd, List.cons_append, List.nil_append] at F))
      | fail)
  go_fit (KP.out bp _ sh.data.1)
  rintro e w1 ⟨rfl, hb9⟩; replace sh := sh.call hb9; clear hb9
  go_wp2_with (first
      | ((with_reducible refine Hp.wpl_box sh ?_ ?_); exact rfl; clear sh; (try clear F); go_simp; intro b w1 sh; have F := sh.facts; (try simp only [Hp.Facts, Hp.CellsAt, Nat.reduceAdd, List.cons_append, List.nil_append] at F))
      | ((with_reducible refine Hp.wpl_alloc Try.z_ev sh ?_ ?_); exact rfl; clear sh; (try clear F); go_simp; intro b w1 sh; have F := sh.facts; (try simp only [Hp.Facts, Hp.CellsAt, Nat.reduceAdd, List.cons_append, List.nil_append] at F))
      | ((with_reducible refine Hp.wpl_alloc Try.z_blk sh ?_ ?_); exact rfl; clear sh; (try clear F); go_simp; intro b w1 sh; have F := sh.facts; (try simp only [Hp.Facts, Hp.CellsAt, Nat.reduceAdd, List.cons_append, List.nil_append] at F))
      | ((with_reducible refine Hp.atl_store ?_ ?_); exact rfl; (first | refine Hp.wp_store 0 sh rfl rfl rfl rfl (by kernel_rfl) (Nat.le_of_ble_eq_true rfl) rfl ?_ | refine Hp.wp_store 1 sh rfl rfl rfl rfl (by kernel_rfl) (Nat.le_of_ble_eq_true rfl) rfl ?_ | refine Hp.wp_store 2 sh rfl rfl rfl rfl (by kernel_rfl) (Nat.le_of_ble_eq_true rfl) rfl ?_ | refine Hp.wp_store 3 sh rfl rfl rfl rfl (by kernel_rfl) (Nat.le_of_ble_eq_true rfl) rfl ?_ | refine Hp.wp_store 4 sh rfl rfl rfl rfl (by kernel_rfl) (Nat.le_of_ble_eq_true rfl) rfl ?_ | refine Hp.wp_store 5 sh rfl rfl rfl rfl (by kernel_rfl) (Nat.le_of_ble_eq_true rfl) rfl ?_ | refine Hp.wp_store 6 sh rfl rfl rfl rfl (by kernel_rfl) (Nat.le_of_ble_eq_true rfl) rfl ?_); clear sh; (try clear F); go_simp; intro w1 sh; have F := sh.facts; (try simp only [Hp.Facts, Hp.CellsAt, Nat.reduceAdd, List.cons_append, List.nil_append] at F))
      | fail)
  go_fit (KG.out _)
  rintro e w1 ⟨s4, c4, rfl, hb9⟩; replace sh := sh.call hb9; clear hb9
  go_wp2_with (first
      | ((with_reducible refine Hp.atl_lit ?_ ?_); exact rfl; (refine wp_lits (m := 2) (c := #[.int .i64 0, .int .i64 2, .int .u64 7, .int .i64 2, .int .i64 5, .int .u64 17, .int .u64 6, .int .i64 2, .int .i64 1, .int .u64 9, .int .i64 9, .int .i64 9, .int .u64 4294967296, .int .u64 256]) (t := 31) (fun w => by kernel_rfl) sh ?_); clear sh; (try clear F); intro b2 w1 sh; replace sh := sh.freeze1 (vs := IdxP.exB.flatMap QryP.bc) (fun i v h => by simpa [QryP.bc, IdxP.exB] using h); (have F := sh.facts; (try simp only [Hp.Facts, Hp.CellsAt, Nat.reduceAdd, List.cons_append, List.nil_append] at F)); go_simp)
      | ((with_reducible refine Hp.wpl_box sh ?_ ?_); exact rfl; clear sh; (try clear F); go_simp; intro b w1 sh; have F := sh.facts; (try simp only [Hp.Facts, Hp.CellsAt, Nat.reduceAdd, List.cons_append, List.nil_append] at F))
      | ((with_reducible refine Hp.wpl_alloc Try.z_ev sh ?_ ?_); exact rfl; clear sh; (try clear F); go_simp; intro b w1 sh; have F := sh.facts; (try simp only [Hp.Facts, Hp.CellsAt, Nat.reduceAdd, List.cons_append, List.nil_append] at F))
      | ((with_reducible refine Hp.wpl_alloc Try.z_blk sh ?_ ?_); exact rfl; clear sh; (try clear F); go_simp; intro b w1 sh; have F := sh.facts; (try simp only [Hp.Facts, Hp.CellsAt, Nat.reduceAdd, List.cons_append, List.nil_append] at F))
      | ((with_reducible refine Hp.atl_store ?_ ?_); exact rfl; (first | refine Hp.wp_store 0 sh rfl rfl rfl rfl (by kernel_rfl) (Nat.le_of_ble_eq_true rfl) rfl ?_ | refine Hp.wp_store 1 sh rfl rfl rfl rfl (by kernel_rfl) (Nat.le_of_ble_eq_true rfl) rfl ?_ | refine Hp.wp_store 2 sh rfl rfl rfl rfl (by kernel_rfl) (Nat.le_of_ble_eq_true rfl) rfl ?_ | refine Hp.wp_store 3 sh rfl rfl rfl rfl (by kernel_rfl) (Nat.le_of_ble_eq_true rfl) rfl ?_ | refine Hp.wp_store 4 sh rfl rfl rfl rfl (by kernel_rfl) (Nat.le_of_ble_eq_true rfl) rfl ?_ | refine Hp.wp_store 5 sh rfl rfl rfl rfl (by kernel_rfl) (Nat.le_of_ble_eq_true rfl) rfl ?_ | refine Hp.wp_store 6 sh rfl rfl rfl rfl (by kernel_rfl) (Nat.le_of_ble_eq_true rfl) rfl ?_); clear sh; (try clear F); go_simp; intro w1 sh; have F := sh.facts; (try simp only [Hp.Facts, Hp.CellsAt, Nat.reduceAdd, List.cons_append, List.nil_append] at F))
      | fail)
  go_fit (KS.out (some pb) (some ⟨b2, 0, none⟩) cb 2 _ sh.data.2.2.1 sh.data.1)
  rintro e w1 ⟨rfl, hb9⟩; replace sh := sh.call hb9; clear hb9
  go_wp2_with (first
      | ((with_reducible refine Hp.wpl_box sh ?_ ?_); exact rfl; clear sh; (try clear F); go_simp; intro b w1 sh; have F := sh.facts; (try simp only [Hp.Facts, Hp.CellsAt, Nat.reduceAdd, List.cons_append, List.nil_append] at F))
      | ((with_reducible refine Hp.wpl_alloc Try.z_ev sh ?_ ?_); exact rfl; clear sh; (try clear F); go_simp; intro b w1 sh; have F := sh.facts; (try simp only [Hp.Facts, Hp.CellsAt, Nat.reduceAdd, List.cons_append, List.nil_append] at F))
      | ((with_reducible refine Hp.wpl_alloc Try.z_blk sh ?_ ?_); exact rfl; clear sh; (try clear F); go_simp; intro b w1 sh; have F := sh.facts; (try simp only [Hp.Facts, Hp.CellsAt, Nat.reduceAdd, List.cons_append, List.nil_append] at F))
      | ((with_reducible refine Hp.atl_store ?_ ?_); exact rfl; (first | refine Hp.wp_store 0 sh rfl rfl rfl rfl (by kernel_rfl) (Nat.le_of_ble_eq_true rfl) rfl ?_ | refine Hp.wp_store 1 sh rfl rfl rfl rfl (by kernel_rfl) (Nat.le_of_ble_eq_true rfl) rfl ?_ | refine Hp.wp_store 2 sh rfl rfl rfl rfl (by kernel_rfl) (Nat.le_of_ble_eq_true rfl) rfl ?_ | refine Hp.wp_store 3 sh rfl rfl rfl rfl (by kernel_rfl) (Nat.le_of_ble_eq_true rfl) rfl ?_ | refine Hp.wp_store 4 sh rfl rfl rfl rfl (by kernel_rfl) (Nat.le_of_ble_eq_true rfl) rfl ?_ | refine Hp.wp_store 5 sh rfl rfl rfl rfl (by kernel_rfl) (Nat.le_of_ble_eq_true rfl) rfl ?_ | refine Hp.wp_store 6 sh rfl rfl rfl rfl (by kernel_rfl) (Nat.le_of_ble_eq_true rfl) rfl ?_); clear sh; (try clear F); go_simp; intro w1 sh; have F := sh.facts; (try simp only [Hp.Facts, Hp.CellsAt, Nat.reduceAdd, List.cons_append, List.nil_append] at F))
      | fail)
  go_ret
  exact ⟨by first | rfl | simp, sh.below⟩

end Go.Proofs.Ytgklleicoikcjaa