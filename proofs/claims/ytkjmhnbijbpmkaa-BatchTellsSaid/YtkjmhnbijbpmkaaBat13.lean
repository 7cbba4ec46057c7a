
/-
  The walk of BatchGets.
-/
import Derived.Test.YtkjmhnbijbpmkaaBat12
import Derived.Test.YtkjmhnbijbpmkaaBat10
namespace Go.Proofs.Ytkjmhnbijbpmkaa
open Go.RowKit
set_option linter.unusedVariables false
set_option linter.unusedSimpArgs false
theorem BatP.get_shape {s : List UInt8} {f : Int} {ls : List BatP.Ev} {pv : List UInt8} {n : Nat} {er : Int} (h : BatP.getB s = (((f, ls, pv), n), er)) : pv.length = 32 ∧ ls.length ≤ 256 := by
  by_cases he : er = 0
  · subst he
    obtain ⟨h1, h2, -, -, -⟩ := BatP.get_back h
    exact ⟨h2.prev, (BatP.isB_iff.1 h1).2.1⟩
  · have h2 := BatP.get_none (s := s) (by rw [h]; exact he)
    rw [h] at h2
    have e1 : ls = [] := congrArg (fun x => x.1.1.2.1) h2
    have e2 : pv = BatP.zeros := congrArg (fun x => x.1.1.2.2) h2
    subst e1 e2
    exact ⟨rfl, by decide⟩

set_option maxHeartbeats 4000000 in
set_option maxRecDepth 100000 in
theorem batchGets_walk (q : List UInt8) (hq : q.length ≤ 140737488351232) (w : World) : Calls Try.prog 3 #[.string (bstr q)] w fun e w' => e = .returned (.bool true) ∧ Below w.heap.size w w' := by
  have sh := (Hp.Sh.start (fun _ _ => trivial) : Hp.Sh w w [] (fun _ => True))
  have hsz := bstr_size q
  by_cases c1 : 20000 < q.length
  · have c1I : (20000 : Int) < (((bstr q).size : Nat) : Int) := by rw [hsz]; omega
    have c1N : 20000 < (bstr q).size := by rw [hsz]; exact c1
    clear hsz
    go_enter Try.func3, Try.ntmps3
    have F := sh.facts; (try simp only [Hp.Facts, Hp.CellsAt, BatP.cellsAt_bt, Nat.reduceAdd, List.cons_append, List.nil_append] at F)
    go_wp2_with (first
        | ((first | (with_reducible refine Hp.wpl_box sh ?_ ?_) | (with_reducible refine Hp.wpl_alloc Try.z_ev sh ?_ ?_) | (with_reducible refine Hp.wpl_alloc Try.z_bt sh ?_ ?_) | (with_reducible refine Hp.wpl_alloc Try.z_dg sh ?_ ?_)); exact rfl; clear sh; (try clear F); go_simp; (first | intro b w1 sh); have F := sh.facts; (try simp only [Hp.Facts, Hp.CellsAt, BatP.cellsAt_bt, Nat.reduceAdd, List.cons_append, List.nil_append] at F))
        | ((with_reducible refine Hp.atl_store ?_ ?_); exact rfl; (first | refine Hp.wp_store 0 sh rfl rfl rfl rfl (by kernel_rfl) (Nat.le_of_ble_eq_true rfl) rfl ?_ | refine Hp.wp_store 1 sh rfl rfl rfl rfl (by kernel_rfl) (Nat.le_of_ble_eq_true rfl) rfl ?_ | refine Hp.wp_store 2 sh rfl rfl rfl rfl (by kernel_rfl) (Nat.le_of_ble_eq_true rfl) rfl ?_ | refine Hp.wp_store 3 sh rfl rfl rfl rfl (by kernel_rfl) (Nat.le_of_ble_eq_true rfl) rfl ?_ | refine Hp.wp_store 4 sh rfl rfl rfl rfl (by kernel_rfl) (Nat.le_of_ble_eq_true rfl) rfl ?_ | refine Hp.wp_store 5 sh rfl rfl rfl rfl (by kernel_rfl) (Nat.le_of_ble_eq_true rfl) rfl ?_ | refine Hp.wp_store 6 sh rfl rfl rfl rfl (by kernel_rfl) (Nat.le_of_ble_eq_true rfl) rfl ?_); clear sh; (try clear F); go_simp; intro w1 sh; have F := sh.facts; (try simp only [Hp.Facts, Hp.CellsAt, BatP.cellsAt_bt, Nat.reduceAdd, List.cons_append, List.nil_append] at F))
        | fail)
    go_ret
    exact ⟨rfl, sh.below⟩
  have c1I : ¬ (20000 : Int) < (((bstr q).size : Nat) : Int) := by rw [hsz]; omega
  have c1N : ¬ 20000 < (bstr q).size := by rw [hsz]; exact c1
  have K0 := Lib.hid (fun W => bbatched W)
  have K1 := Lib.hid (fun W => bget q (by omega) W)
  have K2 := Lib.hid (fun W => brget q (by omega) W)
  rcases hX : BatP.getB q with ⟨⟨⟨f, ls, pv⟩, n⟩, er⟩
  obtain ⟨hpv, hls⟩ := BatP.get_shape hX
  rw [hX] at K1 K2
  unfold BatP.GetP at K1 K2
  dsimp only at K1 K2
  obtain ⟨nl, hnl⟩ : ∃ k, ls.length = k := ⟨_, rfl⟩
  rw [hnl] at K1 K2 hls
  have KS := Lib.hid (fun s1 s2 c1 c2 W q q2 => bsame f s1 s2 nl c1 c2 ls pv hpv hnl.symm (by omega) W q q2)
  have HQ := Lib.hid (show pv.length = BatP.zeros.length from hpv)
  have HPL := Lib.hid hpv
  clear hX hpv hnl hsz
  go_enter Try.func3, Try.ntmps3
  have F := sh.facts; (try simp only [Hp.Facts, Hp.CellsAt, BatP.cellsAt_bt, Nat.reduceAdd, List.cons_append, List.nil_append] at F)
  go_wp2_with (first
      | ((first | (with_reducible refine Hp.wpl_box sh ?_ ?_) | (with_reducible refine Hp.wpl_alloc Try.z_ev sh ?_ ?_) | (with_reducible refine Hp.wpl_alloc Try.z_bt sh ?_ ?_) | (with_reducible refine Hp.wpl_alloc Try.z_dg sh ?_ ?_)); exact rfl; clear sh; (try clear F); go_simp; (first | intro b w1 sh); have F := sh.facts; (try simp only [Hp.Facts, Hp.CellsAt, BatP.cellsAt_bt, Nat.reduceAdd, List.cons_append, List.nil_append] at F))
      | ((with_reducible refine Hp.atl_store ?_ ?_); exact rfl; (first | refine Hp.wp_store 0 sh rfl rfl rfl rfl (by kernel_rfl) (Nat.le_of_ble_eq_true rfl) rfl ?_ | refine Hp.wp_store 1 sh rfl rfl rfl rfl (by kernel_rfl) (Nat.le_of_ble_eq_true rfl) rfl ?_ | refine Hp.wp_store 2 sh rfl rfl rfl rfl (by kernel_rfl) (Nat.le_of_ble_eq_true rfl) rfl ?_ | refine Hp.wp_store 3 sh rfl rfl rfl rfl (by kernel_rfl) (Nat.le_of_ble_eq_true rfl) rfl ?_ | refine Hp.wp_store 4 sh rfl rfl rfl rfl (by kernel_rfl) (Nat.le_of_ble_eq_true rfl) rfl ?_ | refine Hp.wp_store 5 sh rfl rfl rfl rfl (by kernel_rfl) (Nat.le_of_ble_eq_true rfl) rfl ?_ | refine Hp.wp_store 6 sh rfl rfl rfl rfl (by kernel_rfl) (Nat.le_of_ble_eq_true rfl) rfl ?_); clear sh; (try clear F); go_simp; intro w1 sh; have F := sh.facts; (try simp only [Hp.Facts, Hp.CellsAt, BatP.cellsAt_bt, Nat.reduceAdd, List.cons_append, List.nil_append] at F))
      | fail)
  go_fit (K1.out _)
  rintro e w1 ⟨s1, k1, rfl, hn9, hr9, hb9, -, -⟩
  replace sh := Hp.gain sh hb9 hn9 hr9
  clear hn9 hr9 hb9
  (try clear F); (have F := sh.facts; (try simp only [BatP.cellsAt_bt, Hp.Facts, Hp.CellsAt, BatP.cellsAt_bt, Nat.reduceAdd, List.cons_append, List.nil_append] at F))
  have tok_b3 : True := trivial
  go_wp2_with (first
      | ((with_reducible refine Hp.at_st 27 ?_ ?_); (rotate_left; exact rfl); (refine Hp.bst_all 0 sh rfl rfl rfl HQ.out (BatP.bt_size' rfl) ?_); clear sh; (try clear F); go_simp; intro w1 sh; (have F := sh.facts; (try simp only [BatP.cellsAt_bt, Hp.Facts, Hp.CellsAt, BatP.cellsAt_bt, Nat.reduceAdd, List.cons_append, List.nil_append] at F)))
      | ((first | (with_reducible refine Hp.wpl_box sh ?_ ?_) | (with_reducible refine Hp.wpl_alloc Try.z_ev sh ?_ ?_) | (with_reducible refine Hp.wpl_alloc Try.z_bt sh ?_ ?_) | (with_reducible refine Hp.wpl_alloc Try.z_dg sh ?_ ?_)); exact rfl; clear sh; (try clear F); go_simp; (first | (have tok := tok_b3; clear tok tok_b3; intro b3 w1 sh) | intro b w1 sh); have F := sh.facts; (try simp only [Hp.Facts, Hp.CellsAt, BatP.cellsAt_bt, Nat.reduceAdd, List.cons_append, List.nil_append] at F))
      | ((with_reducible refine Hp.atl_store ?_ ?_); exact rfl; (first | refine Hp.wp_store 0 sh rfl rfl rfl rfl (by kernel_rfl) (Nat.le_of_ble_eq_true rfl) rfl ?_ | refine Hp.wp_store 1 sh rfl rfl rfl rfl (by kernel_rfl) (Nat.le_of_ble_eq_true rfl) rfl ?_ | refine Hp.wp_store 2 sh rfl rfl rfl rfl (by kernel_rfl) (Nat.le_of_ble_eq_true rfl) rfl ?_ | refine Hp.wp_store 3 sh rfl rfl rfl rfl (by kernel_rfl) (Nat.le_of_ble_eq_true rfl) rfl ?_ | refine Hp.wp_store 4 sh rfl rfl rfl rfl (by kernel_rfl) (Nat.le_of_ble_eq_true rfl) rfl ?_ | refine Hp.wp_store 5 sh rfl rfl rfl rfl (by kernel_rfl) (Nat.le_of_ble_eq_true rfl) rfl ?_ | refine Hp.wp_store 6 sh rfl rfl rfl rfl (by kernel_rfl) (Nat.le_of_ble_eq_true rfl) rfl ?_); clear sh; (try clear F); go_simp; intro w1 sh; have F := sh.facts; (try simp only [Hp.Facts, Hp.CellsAt, BatP.cellsAt_bt, Nat.reduceAdd, List.cons_append, List.nil_append] at F))
      | fail)
  go_fit (K2.out _)
  rintro e w1 ⟨s2, k2, rfl, hn9, hr9, hb9, -, -⟩
  replace sh := Hp.gain sh hb9 hn9 hr9
  clear hn9 hr9 hb9
  (try clear F); (have F := sh.facts; (try simp only [BatP.cellsAt_bt, Hp.Facts, Hp.CellsAt, BatP.cellsAt_bt, Nat.reduceAdd, List.cons_append, List.nil_append] at F))
  have tok_b6 : True := trivial
  go_wp2_with (first
      | ((with_reducible refine Hp.at_st 27 ?_ ?_); (rotate_left; exact rfl); (refine Hp.bst_all 0 sh rfl rfl rfl HQ.out (BatP.bt_size' rfl) ?_); clear sh; (try clear F); go_simp; intro w1 sh; (have F := sh.facts; (try simp only [BatP.cellsAt_bt, Hp.Facts, Hp.CellsAt, BatP.cellsAt_bt, Nat.reduceAdd, List.cons_append, List.nil_append] at F)))
      | ((first | (with_reducible refine Hp.wpl_box sh ?_ ?_) | (with_reducible refine Hp.wpl_alloc Try.z_ev sh ?_ ?_) | (with_reducible refine Hp.wpl_alloc Try.z_bt sh ?_ ?_) | (with_reducible refine Hp.wpl_alloc Try.z_dg sh ?_ ?_)); exact rfl; clear sh; (try clear F); go_simp; (first | (have tok := tok_b6; clear tok tok_b6; intro b6 w1 sh) | intro b w1 sh); have F := sh.facts; (try simp only [Hp.Facts, Hp.CellsAt, BatP.cellsAt_bt, Nat.reduceAdd, List.cons_append, List.nil_append] at F))
      | ((with_reducible refine Hp.atl_store ?_ ?_); exact rfl; (first | refine Hp.wp_store 0 sh rfl rfl rfl rfl (by kernel_rfl) (Nat.le_of_ble_eq_true rfl) rfl ?_ | refine Hp.wp_store 1 sh rfl rfl rfl rfl (by kernel_rfl) (Nat.le_of_ble_eq_true rfl) rfl ?_ | refine Hp.wp_store 2 sh rfl rfl rfl rfl (by kernel_rfl) (Nat.le_of_ble_eq_true rfl) rfl ?_ | refine Hp.wp_store 3 sh rfl rfl rfl rfl (by kernel_rfl) (Nat.le_of_ble_eq_true rfl) rfl ?_ | refine Hp.wp_store 4 sh rfl rfl rfl rfl (by kernel_rfl) (Nat.le_of_ble_eq_true rfl) rfl ?_ | refine Hp.wp_store 5 sh rfl rfl rfl rfl (by kernel_rfl) (Nat.le_of_ble_eq_true rfl) rfl ?_ | refine Hp.wp_store 6 sh rfl rfl rfl rfl (by kernel_rfl) (Nat.le_of_ble_eq_true rfl) rfl ?_); clear sh; (try clear F); go_simp; intro w1 sh; have F := sh.facts; (try simp only [Hp.Facts, Hp.CellsAt, BatP.cellsAt_bt, Nat.reduceAdd, List.cons_append, List.nil_append] at F))
      | fail)
  go_fit (K0.out _)
  rintro e w1 ⟨rfl, hb⟩
  replace sh := sh.call hb; clear hb; (try clear F); have F := sh.facts; (try simp only [Hp.Facts, Hp.CellsAt, BatP.cellsAt_bt, Nat.reduceAdd, List.cons_append, List.nil_append] at F)
  go_wp2_with (first
      | ((with_reducible refine Hp.at_ld 27 ?_); (first | refine Hp.bld_g 0 sh rfl rfl rfl (by kernel_rfl) (BatP.bt_size HPL.out) ?_ | refine Hp.bld_g 1 sh rfl rfl rfl (by kernel_rfl) (BatP.bt_size HPL.out) ?_ | refine Hp.bld_g 2 sh rfl rfl rfl (by kernel_rfl) (BatP.bt_size HPL.out) ?_); go_simp)
      | ((first | (with_reducible refine Hp.wpl_box sh ?_ ?_) | (with_reducible refine Hp.wpl_alloc Try.z_ev sh ?_ ?_) | (with_reducible refine Hp.wpl_alloc Try.z_bt sh ?_ ?_) | (with_reducible refine Hp.wpl_alloc Try.z_dg sh ?_ ?_)); exact rfl; clear sh; (try clear F); go_simp; (first | intro b w1 sh); have F := sh.facts; (try simp only [Hp.Facts, Hp.CellsAt, BatP.cellsAt_bt, Nat.reduceAdd, List.cons_append, List.nil_append] at F))
      | ((with_reducible refine Hp.atl_store ?_ ?_); exact rfl; (first | refine Hp.wp_store 0 sh rfl rfl rfl rfl (by kernel_rfl) (Nat.le_of_ble_eq_true rfl) rfl ?_ | refine Hp.wp_store 1 sh rfl rfl rfl rfl (by kernel_rfl) (Nat.le_of_ble_eq_true rfl) rfl ?_ | refine Hp.wp_store 2 sh rfl rfl rfl rfl (by kernel_rfl) (Nat.le_of_ble_eq_true rfl) rfl ?_ | refine Hp.wp_store 3 sh rfl rfl rfl rfl (by kernel_rfl) (Nat.le_of_ble_eq_true rfl) rfl ?_ | refine Hp.wp_store 4 sh rfl rfl rfl rfl (by kernel_rfl) (Nat.le_of_ble_eq_true rfl) rfl ?_ | refine Hp.wp_store 5 sh rfl rfl rfl rfl (by kernel_rfl) (Nat.le_of_ble_eq_true rfl) rfl ?_ | refine Hp.wp_store 6 sh rfl rfl rfl rfl (by kernel_rfl) (Nat.le_of_ble_eq_true rfl) rfl ?_); clear sh; (try clear F); go_simp; intro w1 sh; have F := sh.facts; (try simp only [Hp.Facts, Hp.CellsAt, BatP.cellsAt_bt, Nat.reduceAdd, List.cons_append, List.nil_append] at F))
      | fail)
  go_fit (KS.out s1 s2 k1 k2 _ sh.data.2 sh.data.1)
  rintro e w1 ⟨rfl, hb⟩
  replace sh := sh.call hb; clear hb; (try clear F); have F := sh.facts; (try simp only [Hp.Facts, Hp.CellsAt, BatP.cellsAt_bt, Nat.reduceAdd, List.cons_append, List.nil_append] at F)
  go_wp2_with (first
      | ((first | (with_reducible refine Hp.wpl_box sh ?_ ?_) | (with_reducible refine Hp.wpl_alloc Try.z_ev sh ?_ ?_) | (with_reducible refine Hp.wpl_alloc Try.z_bt sh ?_ ?_) | (with_reducible refine Hp.wpl_alloc Try.z_dg sh ?_ ?_)); exact rfl; clear sh; (try clear F); go_simp; (first | intro b w1 sh); have F := sh.facts; (try simp only [Hp.Facts, Hp.CellsAt, BatP.cellsAt_bt, Nat.reduceAdd, List.cons_append, List.nil_append] at F))
      | ((with_reducible refine Hp.atl_store ?_ ?_); exact rfl; (first | refine Hp.wp_store 0 sh rfl rfl rfl rfl (by kernel_rfl) (Nat.le_of_ble_eq_true rfl) rfl ?_ | refine Hp.wp_store 1 sh rfl rfl rfl rfl (by kernel_rfl) (Nat.le_of_ble_eq_true rfl) rfl ?_ | refine Hp.wp_store 2 sh rfl rfl rfl rfl (by kernel_rfl) (Nat.le_of_ble_eq_true rfl) rfl ?_ | refine Hp.wp_store 3 sh rfl rfl rfl rfl (by kernel_rfl) (Nat.le_of_ble_eq_true rfl) rfl ?_ | refine Hp.wp_store 4 sh rfl rfl rfl rfl (by kernel_rfl) (Nat.le_of_ble_eq_true rfl) rfl ?_ | refine Hp.wp_store 5 sh rfl rfl rfl rfl (by kernel_rfl) (Nat.le_of_ble_eq_true rfl) rfl ?_ | refine Hp.wp_store 6 sh rfl rfl rfl rfl (by kernel_rfl) (Nat.le_of_ble_eq_true rfl) rfl ?_); clear sh; (try clear F); go_simp; intro w1 sh; have F := sh.facts; (try simp only [Hp.Facts, Hp.CellsAt, BatP.cellsAt_bt, Nat.reduceAdd, List.cons_append, List.nil_append] at F))
      | fail)
  go_ret
  exact ⟨by first | rfl | simp, sh.below⟩

end Go.Proofs.Ytkjmhnbijbpmkaa