
/-
  The walks of Sum, and of BatchPuts and BatchOnly.
-/
import Derived.Test.YtkjmhnbijbpmkaaDoorBat16
import Derived.Test.YtkjmhnbijbpmkaaDoorDig10
namespace Go.Proofs.YtkjmhnbijbpmkaaDoor
open Go.RowKit
set_option linter.unusedVariables false
set_option linter.unusedSimpArgs false
namespace BatP
/-- A batch's sum. -/
def sumB (b : Ba) : List UInt8 × Int := if isB b = true then (DigP.of (outL b), 0) else (zeros, 1)
theorem sumB_no {b : Ba} (h : isB b = false) : sumB b = (zeros, 1) := by unfold sumB; rw [if_neg (by rw [h]; simp)]
theorem sumB_yes {b : Ba} (h : isB b = true) : sumB b = (DigP.of (outL b), 0) := by unfold sumB; rw [if_pos h]
theorem sumB_len (b : Ba) : (sumB b).1.length = 32 := by
  unfold sumB
  split
  · exact DigP.of_length _
  · rfl
theorem evs_all {b : Ba} (h : Ok b) (hb : isB b = true) : ∀ x ∈ b.2.1, EvP.EvB x := fun x hx => by
  have hi := run_is (isB_iff.1 hb).2.2.1 x hx
  have hs := h.evs x hx
  obtain ⟨q, t, p, k, a, b⟩ := x
  have := EvP.isB_iff.1 hi
  unfold EvP.EvB
  dsimp only at hs ⊢
  refine ⟨hs, ?_, ?_, ?_, ?_, ?_⟩ <;> omega
end BatP
theorem dof' (l : List UInt8) (hl : l.length ≤ 1048576) (w : World) (hG : Hp.RdV w (some ⟨0, 0, none⟩) (DigP.wds DigP.consts)) : Calls Tryd.prog 15 #[.string (bstr l)] w fun e w' => e = .returned (.agg (BatP.bA (DigP.of l))) ∧ Below w.heap.size w w' := dof l hl w hG
theorem drof' (l : List UInt8) (hl : l.length ≤ 1048576) (w : World) : Calls Tryd.prog 28 #[.string (bstr l)] w fun e w' => e = .returned (.agg (BatP.bA (DigP.of l))) ∧ Below w.heap.size w w' := drof l hl w

set_option maxHeartbeats 4000000 in
set_option maxRecDepth 100000 in
theorem bsum (f : Int) (s : Option Addr) (n c : Nat) (l : List EvP.Ev) (prev : List UInt8) (hp : prev.length = 32) (hf : 0 ≤ f ∧ f ≤ 18446744073709551615) (hn : n = l.length) (hnc : n ≤ c) (hm : n ≤ 9223372036854775807) (hE : ∀ x ∈ l, EvP.EvB x) (w : World) (hR : Hp.RdV w s (l.flatMap EvP.evc)) (hG : Hp.RdV w (some ⟨0, 0, none⟩) (DigP.wds DigP.consts)) :
    Calls Tryd.prog 8 #[.agg (BatP.btA f (.slice s n c) prev)] w fun e w' => e = .returned (.tuple #[.agg (BatP.bA (BatP.sumB (f, l, prev)).1), .int .i64 (BatP.sumB (f, l, prev)).2]) ∧ Below w.heap.size w w' := by
  have sh := (Hp.Sh.start ((RdV_rob hR).and (RdV_rob hG)) : Hp.Sh w w [] (fun W => Hp.RdV W s (l.flatMap EvP.evc) ∧ Hp.RdV W (some ⟨0, 0, none⟩) (DigP.wds DigP.consts)))
  have K1 := Lib.hid (fun W r => bput f s n c l prev hp hf hn hnc hm hE W r)
  have HPL := Lib.hid hp
  cases hb : BatP.isB (f, l, prev) with
  | false =>
    rw [BatP.putB_no hb] at K1
    dsimp only at K1
    have HX := Lib.hid (BatP.sumB_no hb)
    clear hn hE hR hp hf hb hG
    go_enter Tryd.func8, Tryd.ntmps8
    have F := sh.facts; (try simp only [Hp.Facts, Hp.CellsAt, BatP.cellsAt_bt, BatP.cellsAt_bt, Nat.reduceAdd, List.cons_append, List.nil_append] at F)
    have tok_b1 : True := trivial
    have tok_b2 : True := trivial
    go_wp2_with (first
        | ((with_reducible refine Hp.at_ld 27 ?_); (first | refine Hp.bld_g 0 sh rfl rfl rfl (by kernel_rfl) (BatP.bt_size HPL.out) ?_ | refine Hp.bld_g 1 sh rfl rfl rfl (by kernel_rfl) (BatP.bt_size HPL.out) ?_ | refine Hp.bld_g 2 sh rfl rfl rfl (by kernel_rfl) (BatP.bt_size HPL.out) ?_); go_simp)
        | ((first | (with_reducible refine Hp.wpl_box sh ?_ ?_) | (with_reducible refine Hp.wpl_alloc Tryd.z_ev sh ?_ ?_) | (with_reducible refine Hp.wpl_alloc Tryd.z_bt sh ?_ ?_) | (with_reducible refine Hp.wpl_alloc Tryd.z_dg sh ?_ ?_) | (with_reducible refine Hp.atl_store ?_ ?_)); exact rfl; (try ((first | refine Hp.ws 0 sh rfl ?_ ?_ | refine Hp.ws 1 sh rfl ?_ ?_ | refine Hp.ws 2 sh rfl ?_ ?_ | refine Hp.ws 3 sh rfl ?_ ?_ | refine Hp.ws 4 sh rfl ?_ ?_ | refine Hp.ws 5 sh rfl ?_ ?_ | refine Hp.ws 6 sh rfl ?_ ?_); kernel_rfl)); clear sh; (try clear F); go_simp; (first | (have tok := tok_b1; clear tok tok_b1; intro b1 w1 sh) | (have tok := tok_b2; clear tok tok_b2; intro b2 w1 sh) | intro b w1 sh | intro w1 sh); have F := sh.facts; (try simp only [Hp.Facts, Hp.CellsAt, BatP.cellsAt_bt, BatP.cellsAt_bt, Nat.reduceAdd, List.cons_append, List.nil_append] at F))
        | fail)
    go_fit (K1.out _ sh.data.1)
    rintro e w1 ⟨rfl, hb⟩
    replace sh := sh.call hb; clear hb; (try clear F); have F := sh.facts; (try simp only [Hp.Facts, Hp.CellsAt, BatP.cellsAt_bt, BatP.cellsAt_bt, Nat.reduceAdd, List.cons_append, List.nil_append] at F)
    go_wp2_with (first
        | ((with_reducible refine Hp.at_st 25 ?_ ?_); (rotate_left; exact rfl); (refine Hp.bst_arr (q := BatP.zeros) 0 sh rfl rfl rfl rfl (by kernel_rfl) ?_); clear sh; (try clear F); go_simp; intro w1 sh; (have F := sh.facts; (try simp only [BatP.cellsAt_bt, Hp.Facts, Hp.CellsAt, BatP.cellsAt_bt, BatP.cellsAt_bt, Nat.reduceAdd, List.cons_append, List.nil_append] at F)))
        | ((first | (with_reducible refine Hp.wpl_box sh ?_ ?_) | (with_reducible refine Hp.wpl_alloc Tryd.z_ev sh ?_ ?_) | (with_reducible refine Hp.wpl_alloc Tryd.z_bt sh ?_ ?_) | (with_reducible refine Hp.wpl_alloc Tryd.z_dg sh ?_ ?_) | (with_reducible refine Hp.atl_store ?_ ?_)); exact rfl; (try ((first | refine Hp.ws 0 sh rfl ?_ ?_ | refine Hp.ws 1 sh rfl ?_ ?_ | refine Hp.ws 2 sh rfl ?_ ?_ | refine Hp.ws 3 sh rfl ?_ ?_ | refine Hp.ws 4 sh rfl ?_ ?_ | refine Hp.ws 5 sh rfl ?_ ?_ | refine Hp.ws 6 sh rfl ?_ ?_); kernel_rfl)); clear sh; (try clear F); go_simp; (first | intro b w1 sh | intro w1 sh); have F := sh.facts; (try simp only [Hp.Facts, Hp.CellsAt, BatP.cellsAt_bt, BatP.cellsAt_bt, Nat.reduceAdd, List.cons_append, List.nil_append] at F))
        | fail)
    exact bodyPost_ret (Hp.res_ct rfl rfl (sh.load 0 rfl (by kernel_rfl) (BatP.dg_size rfl))) rfl ⟨by rw [HX.out]; rfl, sh.below⟩
  | true =>
    have hok : BatP.Ok (f, l, prev) := ⟨hf, hp, fun x hx => (hE x hx).1⟩
    rw [BatP.putB_yes hb] at K1
    dsimp only at K1
    have hol : (BatP.outL (f, l, prev)).length ≤ 1048576 := by have := BatP.out_len (b := (f, l, prev)); have := BatP.body_len hok hb; omega
    have KO := Lib.hid (fun W q => dof' (BatP.outL (f, l, prev)) hol W q)
    have HX := Lib.hid (BatP.sumB_yes hb)
    have hdl := DigP.of_length (BatP.outL (f, l, prev))
    generalize DigP.of (BatP.outL (f, l, prev)) = dg at KO HX hdl
    generalize BatP.outL (f, l, prev) = O at K1 KO
    have HDG := Lib.hid (show dg.length = BatP.zeros.length from hdl)
    have HDL := Lib.hid hdl
    clear hn hE hR hp hf hb hok hol hdl hG
    go_enter Tryd.func8, Tryd.ntmps8
    have F := sh.facts; (try simp only [Hp.Facts, Hp.CellsAt, BatP.cellsAt_bt, BatP.cellsAt_bt, Nat.reduceAdd, List.cons_append, List.nil_append] at F)
    have tok_b1 : True := trivial
    have tok_b2 : True := trivial
    go_wp2_with (first
        | ((with_reducible refine Hp.at_ld 27 ?_); (first | refine Hp.bld_g 0 sh rfl rfl rfl (by kernel_rfl) (BatP.bt_size HPL.out) ?_ | refine Hp.bld_g 1 sh rfl rfl rfl (by kernel_rfl) (BatP.bt_size HPL.out) ?_ | refine Hp.bld_g 2 sh rfl rfl rfl (by kernel_rfl) (BatP.bt_size HPL.out) ?_); go_simp)
        | ((first | (with_reducible refine Hp.wpl_box sh ?_ ?_) | (with_reducible refine Hp.wpl_alloc Tryd.z_ev sh ?_ ?_) | (with_reducible refine Hp.wpl_alloc Tryd.z_bt sh ?_ ?_) | (with_reducible refine Hp.wpl_alloc Tryd.z_dg sh ?_ ?_) | (with_reducible refine Hp.atl_store ?_ ?_)); exact rfl; (try ((first | refine Hp.ws 0 sh rfl ?_ ?_ | refine Hp.ws 1 sh rfl ?_ ?_ | refine Hp.ws 2 sh rfl ?_ ?_ | refine Hp.ws 3 sh rfl ?_ ?_ | refine Hp.ws 4 sh rfl ?_ ?_ | refine Hp.ws 5 sh rfl ?_ ?_ | refine Hp.ws 6 sh rfl ?_ ?_); kernel_rfl)); clear sh; (try clear F); go_simp; (first | (have tok := tok_b1; clear tok tok_b1; intro b1 w1 sh) | (have tok := tok_b2; clear tok tok_b2; intro b2 w1 sh) | intro b w1 sh | intro w1 sh); have F := sh.facts; (try simp only [Hp.Facts, Hp.CellsAt, BatP.cellsAt_bt, BatP.cellsAt_bt, Nat.reduceAdd, List.cons_append, List.nil_append] at F))
        | fail)
    go_fit (K1.out _ sh.data.1)
    rintro e w1 ⟨rfl, hb⟩
    replace sh := sh.call hb; clear hb; (try clear F); have F := sh.facts; (try simp only [Hp.Facts, Hp.CellsAt, BatP.cellsAt_bt, BatP.cellsAt_bt, Nat.reduceAdd, List.cons_append, List.nil_append] at F)
    go_wp2_with (first
        | ((first | (with_reducible refine Hp.wpl_box sh ?_ ?_) | (with_reducible refine Hp.wpl_alloc Tryd.z_ev sh ?_ ?_) | (with_reducible refine Hp.wpl_alloc Tryd.z_bt sh ?_ ?_) | (with_reducible refine Hp.wpl_alloc Tryd.z_dg sh ?_ ?_) | (with_reducible refine Hp.atl_store ?_ ?_)); exact rfl; (try ((first | refine Hp.ws 0 sh rfl ?_ ?_ | refine Hp.ws 1 sh rfl ?_ ?_ | refine Hp.ws 2 sh rfl ?_ ?_ | refine Hp.ws 3 sh rfl ?_ ?_ | refine Hp.ws 4 sh rfl ?_ ?_ | refine Hp.ws 5 sh rfl ?_ ?_ | refine Hp.ws 6 sh rfl ?_ ?_); kernel_rfl)); clear sh; (try clear F); go_simp; (first | intro b w1 sh | intro w1 sh); have F := sh.facts; (try simp only [Hp.Facts, Hp.CellsAt, BatP.cellsAt_bt, BatP.cellsAt_bt, Nat.reduceAdd, List.cons_append, List.nil_append] at F))
        | fail)
    go_fit (KO.out _ sh.data.2)
    rintro e w1 ⟨rfl, hb⟩
    replace sh := sh.call hb; clear hb; (try clear F); have F := sh.facts; (try simp only [Hp.Facts, Hp.CellsAt, BatP.cellsAt_bt, BatP.cellsAt_bt, Nat.reduceAdd, List.cons_append, List.nil_append] at F)
    go_wp2_with (first
        | ((with_reducible refine Hp.at_st 25 ?_ ?_); (rotate_left; exact rfl); (refine Hp.bst_arr 0 sh rfl rfl rfl HDG.out (by kernel_rfl) ?_); clear sh; (try clear F); go_simp; intro w1 sh; (have F := sh.facts; (try simp only [BatP.cellsAt_bt, Hp.Facts, Hp.CellsAt, BatP.cellsAt_bt, BatP.cellsAt_bt, Nat.reduceAdd, List.cons_append, List.nil_append] at F)))
        | ((first | (with_reducible refine Hp.wpl_box sh ?_ ?_) | (with_reducible refine Hp.wpl_alloc Tryd.z_ev sh ?_ ?_) | (with_reducible refine Hp.wpl_alloc Tryd.z_bt sh ?_ ?_) | (with_reducible refine Hp.wpl_alloc Tryd.z_dg sh ?_ ?_) | (with_reducible refine Hp.atl_store ?_ ?_)); exact rfl; (try ((first | refine Hp.ws 0 sh rfl ?_ ?_ | refine Hp.ws 1 sh rfl ?_ ?_ | refine Hp.ws 2 sh rfl ?_ ?_ | refine Hp.ws 3 sh rfl ?_ ?_ | refine Hp.ws 4 sh rfl ?_ ?_ | refine Hp.ws 5 sh rfl ?_ ?_ | refine Hp.ws 6 sh rfl ?_ ?_); kernel_rfl)); clear sh; (try clear F); go_simp; (first | intro b w1 sh | intro w1 sh); have F := sh.facts; (try simp only [Hp.Facts, Hp.CellsAt, BatP.cellsAt_bt, BatP.cellsAt_bt, Nat.reduceAdd, List.cons_append, List.nil_append] at F))
        | fail)
    exact bodyPost_ret (Hp.res_ct rfl rfl (sh.load 0 rfl (by kernel_rfl) (BatP.dg_size HDL.out))) rfl ⟨by rw [HX.out]; rfl, sh.below⟩

set_option maxHeartbeats 4000000 in
set_option maxRecDepth 100000 in
theorem brsum (f : Int) (s : Option Addr) (n c : Nat) (l : List EvP.Ev) (prev : List UInt8) (hp : prev.length = 32) (hf : 0 ≤ f ∧ f ≤ 18446744073709551615) (hn : n = l.length) (hnc : n ≤ c) (hm : n ≤ 9223372036854775807) (hE : ∀ x ∈ l, EvP.EvB x) (w : World) (hR : Hp.RdV w s (l.flatMap EvP.evc)) :
    Calls Tryd.prog 9 #[.agg (BatP.btA f (.slice s n c) prev)] w fun e w' => e = .returned (.tuple #[.agg (BatP.bA (BatP.sumB (f, l, prev)).1), .int .i64 (BatP.sumB (f, l, prev)).2]) ∧ Below w.heap.size w w' := by
  have sh := (Hp.Sh.start (RdV_rob hR) : Hp.Sh w w [] (fun W => Hp.RdV W s (l.flatMap EvP.evc)))
  have K1 := Lib.hid (fun W r => brput f s n c l prev hp hf hn hnc hm hE W r)
  have HPL := Lib.hid hp
  cases hb : BatP.isB (f, l, prev) with
  | false =>
    rw [BatP.putB_no hb] at K1
    dsimp only at K1
    have HX := Lib.hid (BatP.sumB_no hb)
    clear hn hE hR hp hf hb
    go_enter Tryd.func9, Tryd.ntmps9
    have F := sh.facts; (try simp only [Hp.Facts, Hp.CellsAt, BatP.cellsAt_bt, BatP.cellsAt_bt, Nat.reduceAdd, List.cons_append, List.nil_append] at F)
    have tok_b1 : True := trivial
    have tok_b2 : True := trivial
    go_wp2_with (first
        | ((with_reducible refine Hp.at_ld 27 ?_); (first | refine Hp.bld_g 0 sh rfl rfl rfl (by kernel_rfl) (BatP.bt_size HPL.out) ?_ | refine Hp.bld_g 1 sh rfl rfl rfl (by kernel_rfl) (BatP.bt_size HPL.out) ?_ | refine Hp.bld_g 2 sh rfl rfl rfl (by kernel_rfl) (BatP.bt_size HPL.out) ?_); go_simp)
        | ((first | (with_reducible refine Hp.wpl_box sh ?_ ?_) | (with_reducible refine Hp.wpl_alloc Tryd.z_ev sh ?_ ?_) | (with_reducible refine Hp.wpl_alloc Tryd.z_bt sh ?_ ?_) | (with_reducible refine Hp.wpl_alloc Tryd.z_dg sh ?_ ?_) | (with_reducible refine Hp.atl_store ?_ ?_)); exact rfl; (try ((first | refine Hp.ws 0 sh rfl ?_ ?_ | refine Hp.ws 1 sh rfl ?_ ?_ | refine Hp.ws 2 sh rfl ?_ ?_ | refine Hp.ws 3 sh rfl ?_ ?_ | refine Hp.ws 4 sh rfl ?_ ?_ | refine Hp.ws 5 sh rfl ?_ ?_ | refine Hp.ws 6 sh rfl ?_ ?_); kernel_rfl)); clear sh; (try clear F); go_simp; (first | (have tok := tok_b1; clear tok tok_b1; intro b1 w1 sh) | (have tok := tok_b2; clear tok tok_b2; intro b2 w1 sh) | intro b w1 sh | intro w1 sh); have F := sh.facts; (try simp only [Hp.Facts, Hp.CellsAt, BatP.cellsAt_bt, BatP.cellsAt_bt, Nat.reduceAdd, List.cons_append, List.nil_append] at F))
        | fail)
    go_fit (K1.out _ sh.data)
    rintro e w1 ⟨rfl, hb⟩
    replace sh := sh.call hb; clear hb; (try clear F); have F := sh.facts; (try simp only [Hp.Facts, Hp.CellsAt, BatP.cellsAt_bt, BatP.cellsAt_bt, Nat.reduceAdd, List.cons_append, List.nil_append] at F)
    go_wp2_with (first
        | ((with_reducible refine Hp.at_st 25 ?_ ?_); (rotate_left; exact rfl); (refine Hp.bst_arr (q := BatP.zeros) 0 sh rfl rfl rfl rfl (by kernel_rfl) ?_); clear sh; (try clear F); go_simp; intro w1 sh; (have F := sh.facts; (try simp only [BatP.cellsAt_bt, Hp.Facts, Hp.CellsAt, BatP.cellsAt_bt, BatP.cellsAt_bt, Nat.reduceAdd, List.cons_append, List.nil_append] at F)))
        | ((first | (with_reducible refine Hp.wpl_box sh ?_ ?_) | (with_reducible refine Hp.wpl_alloc Tryd.z_ev sh ?_ ?_) | (with_reducible refine Hp.wpl_alloc Tryd.z_bt sh ?_ ?_) | (with_reducible refine Hp.wpl_alloc Tryd.z_dg sh ?_ ?_) | (with_reducible refine Hp.atl_store ?_ ?_)); exact rfl; (try ((first | refine Hp.ws 0 sh rfl ?_ ?_ | refine Hp.ws 1 sh rfl ?_ ?_ | refine Hp.ws 2 sh rfl ?_ ?_ | refine Hp.ws 3 sh rfl ?_ ?_ | refine Hp.ws 4 sh rfl ?_ ?_ | refine Hp.ws 5 sh rfl ?_ ?_ | refine Hp.ws 6 sh rfl ?_ ?_); kernel_rfl)); clear sh; (try clear F); go_simp; (first | intro b w1 sh | intro w1 sh); have F := sh.facts; (try simp only [Hp.Facts, Hp.CellsAt, BatP.cellsAt_bt, BatP.cellsAt_bt, Nat.reduceAdd, List.cons_append, List.nil_append] at F))
        | fail)
    exact bodyPost_ret (Hp.res_ct rfl rfl (sh.load 0 rfl (by kernel_rfl) (BatP.dg_size rfl))) rfl ⟨by rw [HX.out]; rfl, sh.below⟩
  | true =>
    have hok : BatP.Ok (f, l, prev) := ⟨hf, hp, fun x hx => (hE x hx).1⟩
    rw [BatP.putB_yes hb] at K1
    dsimp only at K1
    have hol : (BatP.outL (f, l, prev)).length ≤ 1048576 := by have := BatP.out_len (b := (f, l, prev)); have := BatP.body_len hok hb; omega
    have KO := Lib.hid (fun W => drof' (BatP.outL (f, l, prev)) hol W)
    have HX := Lib.hid (BatP.sumB_yes hb)
    have hdl := DigP.of_length (BatP.outL (f, l, prev))
    generalize DigP.of (BatP.outL (f, l, prev)) = dg at KO HX hdl
    generalize BatP.outL (f, l, prev) = O at K1 KO
    have HDG := Lib.hid (show dg.length = BatP.zeros.length from hdl)
    have HDL := Lib.hid hdl
    clear hn hE hR hp hf hb hok hol hdl
    go_enter Tryd.func9, Tryd.ntmps9
    have F := sh.facts; (try simp only [Hp.Facts, Hp.CellsAt, BatP.cellsAt_bt, BatP.cellsAt_bt, Nat.reduceAdd, List.cons_append, List.nil_append] at F)
    have tok_b1 : True := trivial
    have tok_b2 : True := trivial
    go_wp2_with (first
        | ((with_reducible refine Hp.at_ld 27 ?_); (first | refine Hp.bld_g 0 sh rfl rfl rfl (by kernel_rfl) (BatP.bt_size HPL.out) ?_ | refine Hp.bld_g 1 sh rfl rfl rfl (by kernel_rfl) (BatP.bt_size HPL.out) ?_ | refine Hp.bld_g 2 sh rfl rfl rfl (by kernel_rfl) (BatP.bt_size HPL.out) ?_); go_simp)
        | ((first | (with_reducible refine Hp.wpl_box sh ?_ ?_) | (with_reducible refine Hp.wpl_alloc Tryd.z_ev sh ?_ ?_) | (with_reducible refine Hp.wpl_alloc Tryd.z_bt sh ?_ ?_) | (with_reducible refine Hp.wpl_alloc Tryd.z_dg sh ?_ ?_) | (with_reducible refine Hp.atl_store ?_ ?_)); exact rfl; (try ((first | refine Hp.ws 0 sh rfl ?_ ?_ | refine Hp.ws 1 sh rfl ?_ ?_ | refine Hp.ws 2 sh rfl ?_ ?_ | refine Hp.ws 3 sh rfl ?_ ?_ | refine Hp.ws 4 sh rfl ?_ ?_ | refine Hp.ws 5 sh rfl ?_ ?_ | refine Hp.ws 6 sh rfl ?_ ?_); kernel_rfl)); clear sh; (try clear F); go_simp; (first | (have tok := tok_b1; clear tok tok_b1; intro b1 w1 sh) | (have tok := tok_b2; clear tok tok_b2; intro b2 w1 sh) | intro b w1 sh | intro w1 sh); have F := sh.facts; (try simp only [Hp.Facts, Hp.CellsAt, BatP.cellsAt_bt, BatP.cellsAt_bt, Nat.reduceAdd, List.cons_append, List.nil_append] at F))
        | fail)
    go_fit (K1.out _ sh.data)
    rintro e w1 ⟨rfl, hb⟩
    replace sh := sh.call hb; clear hb; (try clear F); have F := sh.facts; (try simp only [Hp.Facts, Hp.CellsAt, BatP.cellsAt_bt, BatP.cellsAt_bt, Nat.reduceAdd, List.cons_append, List.nil_append] at F)
    go_wp2_with (first
        | ((first | (with_reducible refine Hp.wpl_box sh ?_ ?_) | (with_reducible refine Hp.wpl_alloc Tryd.z_ev sh ?_ ?_) | (with_reducible refine Hp.wpl_alloc Tryd.z_bt sh ?_ ?_) | (with_reducible refine Hp.wpl_alloc Tryd.z_dg sh ?_ ?_) | (with_reducible refine Hp.atl_store ?_ ?_)); exact rfl; (try ((first | refine Hp.ws 0 sh rfl ?_ ?_ | refine Hp.ws 1 sh rfl ?_ ?_ | refine Hp.ws 2 sh rfl ?_ ?_ | refine Hp.ws 3 sh rfl ?_ ?_ | refine Hp.ws 4 sh rfl ?_ ?_ | refine Hp.ws 5 sh rfl ?_ ?_ | refine Hp.ws 6 sh rfl ?_ ?_); kernel_rfl)); clear sh; (try clear F); go_simp; (first | intro b w1 sh | intro w1 sh); have F := sh.facts; (try simp only [Hp.Facts, Hp.CellsAt, BatP.cellsAt_bt, BatP.cellsAt_bt, Nat.reduceAdd, List.cons_append, List.nil_append] at F))
        | fail)
    go_fit (KO.out _)
    rintro e w1 ⟨rfl, hb⟩
    replace sh := sh.call hb; clear hb; (try clear F); have F := sh.facts; (try simp only [Hp.Facts, Hp.CellsAt, BatP.cellsAt_bt, BatP.cellsAt_bt, Nat.reduceAdd, List.cons_append, List.nil_append] at F)
    go_wp2_with (first
        | ((with_reducible refine Hp.at_st 25 ?_ ?_); (rotate_left; exact rfl); (refine Hp.bst_arr 0 sh rfl rfl rfl HDG.out (by kernel_rfl) ?_); clear sh; (try clear F); go_simp; intro w1 sh; (have F := sh.facts; (try simp only [BatP.cellsAt_bt, Hp.Facts, Hp.CellsAt, BatP.cellsAt_bt, BatP.cellsAt_bt, Nat.reduceAdd, List.cons_append, List.nil_append] at F)))
        | ((first | (with_reducible refine Hp.wpl_box sh ?_ ?_) | (with_reducible refine Hp.wpl_alloc Tryd.z_ev sh ?_ ?_) | (with_reducible refine Hp.wpl_alloc Tryd.z_bt sh ?_ ?_) | (with_reducible refine Hp.wpl_alloc Tryd.z_dg sh ?_ ?_) | (with_reducible refine Hp.atl_store ?_ ?_)); exact rfl; (try ((first | refine Hp.ws 0 sh rfl ?_ ?_ | refine Hp.ws 1 sh rfl ?_ ?_ | refine Hp.ws 2 sh rfl ?_ ?_ | refine Hp.ws 3 sh rfl ?_ ?_ | refine Hp.ws 4 sh rfl ?_ ?_ | refine Hp.ws 5 sh rfl ?_ ?_ | refine Hp.ws 6 sh rfl ?_ ?_); kernel_rfl)); clear sh; (try clear F); go_simp; (first | intro b w1 sh | intro w1 sh); have F := sh.facts; (try simp only [Hp.Facts, Hp.CellsAt, BatP.cellsAt_bt, BatP.cellsAt_bt, Nat.reduceAdd, List.cons_append, List.nil_append] at F))
        | fail)
    exact bodyPost_ret (Hp.res_ct rfl rfl (sh.load 0 rfl (by kernel_rfl) (BatP.dg_size HDL.out))) rfl ⟨by rw [HX.out]; rfl, sh.below⟩

set_option maxHeartbeats 4000000 in
set_option maxRecDepth 100000 in
theorem bbig (f : Int) (s : Option Addr) (n c : Nat) (prev : List UInt8) (w : World) : Calls Tryd.prog 5 #[.agg (BatP.btA f (.slice s n c) prev)] w fun e w' => e = .returned (.bool (decide (300 < (n : Int)))) ∧ Below w.heap.size w w' := by
  have sh := (Hp.Sh.start (fun _ _ => trivial) : Hp.Sh w w [] (fun _ => True))
  go_enter Tryd.func5, Tryd.ntmps5
  have F := sh.facts; (try simp only [Hp.Facts, Hp.CellsAt, BatP.cellsAt_bt, BatP.cellsAt_bt, Nat.reduceAdd, List.cons_append, List.nil_append] at F)
  have tok_b1 : True := trivial
  go_wp2_with (first
      | ((first | (with_reducible refine Hp.wpl_box sh ?_ ?_) | (with_reducible refine Hp.wpl_alloc Tryd.z_ev sh ?_ ?_) | (with_reducible refine Hp.wpl_alloc Tryd.z_bt sh ?_ ?_) | (with_reducible refine Hp.wpl_alloc Tryd.z_dg sh ?_ ?_) | (with_reducible refine Hp.atl_store ?_ ?_)); exact rfl; (try ((first | refine Hp.ws 0 sh rfl ?_ ?_ | refine Hp.ws 1 sh rfl ?_ ?_ | refine Hp.ws 2 sh rfl ?_ ?_ | refine Hp.ws 3 sh rfl ?_ ?_ | refine Hp.ws 4 sh rfl ?_ ?_ | refine Hp.ws 5 sh rfl ?_ ?_ | refine Hp.ws 6 sh rfl ?_ ?_); kernel_rfl)); clear sh; (try clear F); go_simp; (first | (have tok := tok_b1; clear tok tok_b1; intro b1 w1 sh) | intro b w1 sh | intro w1 sh); have F := sh.facts; (try simp only [Hp.Facts, Hp.CellsAt, BatP.cellsAt_bt, BatP.cellsAt_bt, Nat.reduceAdd, List.cons_append, List.nil_append] at F))
      | fail)
  go_ret
  exact ⟨by first | rfl | simp, sh.below⟩

set_option maxHeartbeats 4000000 in
set_option maxRecDepth 100000 in
theorem batchPuts_walk (f : Int) (s : Option Addr) (n c : Nat) (l : List EvP.Ev) (prev : List UInt8) (hp : prev.length = 32) (hf : 0 ≤ f ∧ f ≤ 18446744073709551615) (hn : n = l.length) (hnc : n ≤ c) (hm : n ≤ 9223372036854775807) (hE : ∀ x ∈ l, EvP.EvB x) (w : World) (hR : Hp.RdV w s (l.flatMap EvP.evc)) (hG : Hp.RdV w (some ⟨0, 0, none⟩) (DigP.wds DigP.consts)) :
    Calls Tryd.prog 3 #[.agg (BatP.btA f (.slice s n c) prev)] w fun e w' => e = .returned (.bool true) ∧ Below w.heap.size w w' := by
  have sh := (Hp.Sh.start ((RdV_rob hR).and (RdV_rob hG)) : Hp.Sh w w [] (fun W => Hp.RdV W s (l.flatMap EvP.evc) ∧ Hp.RdV W (some ⟨0, 0, none⟩) (DigP.wds DigP.consts)))
  have KB := Lib.hid (fun W => bbig f s n c prev W)
  have HPL := Lib.hid hp
  by_cases c1 : 300 < n
  · have d1 : decide (300 < (n : Int)) = true := by simp; omega
    rw [d1] at KB
    clear hn hE hR hp hf hG
    go_enter Tryd.func3, Tryd.ntmps3
    have F := sh.facts; (try simp only [Hp.Facts, Hp.CellsAt, BatP.cellsAt_bt, BatP.cellsAt_bt, Nat.reduceAdd, List.cons_append, List.nil_append] at F)
    have tok_b1 : True := trivial
    go_wp2_with (first
        | ((with_reducible refine Hp.at_ld 27 ?_); (first | refine Hp.bld_g 0 sh rfl rfl rfl (by kernel_rfl) (BatP.bt_size HPL.out) ?_ | refine Hp.bld_g 1 sh rfl rfl rfl (by kernel_rfl) (BatP.bt_size HPL.out) ?_ | refine Hp.bld_g 2 sh rfl rfl rfl (by kernel_rfl) (BatP.bt_size HPL.out) ?_); go_simp)
        | ((first | (with_reducible refine Hp.wpl_box sh ?_ ?_) | (with_reducible refine Hp.wpl_alloc Tryd.z_ev sh ?_ ?_) | (with_reducible refine Hp.wpl_alloc Tryd.z_bt sh ?_ ?_) | (with_reducible refine Hp.wpl_alloc Tryd.z_dg sh ?_ ?_) | (with_reducible refine Hp.atl_store ?_ ?_)); exact rfl; (try ((first | refine Hp.ws 0 sh rfl ?_ ?_ | refine Hp.ws 1 sh rfl ?_ ?_ | refine Hp.ws 2 sh rfl ?_ ?_ | refine Hp.ws 3 sh rfl ?_ ?_ | refine Hp.ws 4 sh rfl ?_ ?_ | refine Hp.ws 5 sh rfl ?_ ?_ | refine Hp.ws 6 sh rfl ?_ ?_); kernel_rfl)); clear sh; (try clear F); go_simp; (first | (have tok := tok_b1; clear tok tok_b1; intro b1 w1 sh) | intro b w1 sh | intro w1 sh); have F := sh.facts; (try simp only [Hp.Facts, Hp.CellsAt, BatP.cellsAt_bt, BatP.cellsAt_bt, Nat.reduceAdd, List.cons_append, List.nil_append] at F))
        | fail)
    go_fit (KB.out _)
    rintro e w1 ⟨rfl, hb⟩
    replace sh := sh.call hb; clear hb; (try clear F); have F := sh.facts; (try simp only [Hp.Facts, Hp.CellsAt, BatP.cellsAt_bt, BatP.cellsAt_bt, Nat.reduceAdd, List.cons_append, List.nil_append] at F)
    go_wp2_with (first
        | ((first | (with_reducible refine Hp.wpl_box sh ?_ ?_) | (with_reducible refine Hp.wpl_alloc Tryd.z_ev sh ?_ ?_) | (with_reducible refine Hp.wpl_alloc Tryd.z_bt sh ?_ ?_) | (with_reducible refine Hp.wpl_alloc Tryd.z_dg sh ?_ ?_) | (with_reducible refine Hp.atl_store ?_ ?_)); exact rfl; (try ((first | refine Hp.ws 0 sh rfl ?_ ?_ | refine Hp.ws 1 sh rfl ?_ ?_ | refine Hp.ws 2 sh rfl ?_ ?_ | refine Hp.ws 3 sh rfl ?_ ?_ | refine Hp.ws 4 sh rfl ?_ ?_ | refine Hp.ws 5 sh rfl ?_ ?_ | refine Hp.ws 6 sh rfl ?_ ?_); kernel_rfl)); clear sh; (try clear F); go_simp; (first | intro b w1 sh | intro w1 sh); have F := sh.facts; (try simp only [Hp.Facts, Hp.CellsAt, BatP.cellsAt_bt, BatP.cellsAt_bt, Nat.reduceAdd, List.cons_append, List.nil_append] at F))
        | fail)
    go_ret
    exact ⟨rfl, sh.below⟩
  have d1 : decide (300 < (n : Int)) = false := by simp; omega
  rw [d1] at KB
  have K0 := Lib.hid (fun W => bbatched W)
  have K1 := Lib.hid (fun W r => bput f s n c l prev hp hf hn hnc hm hE W r)
  have K2 := Lib.hid (fun W r => brput f s n c l prev hp hf hn hnc hm hE W r)
  have K3 := Lib.hid (fun W r g => bsum f s n c l prev hp hf hn hnc hm hE W r g)
  have K4 := Lib.hid (fun W r => brsum f s n c l prev hp hf hn hnc hm hE W r)
  have K5 := Lib.hid (fun W r => bis f s n c l prev hn hnc hm hE W r)
  have K6 := Lib.hid (fun W r => bris f s n c l prev hn hnc hm hE W r)
  have K7 := Lib.hid (fun W => blast f s n c prev hm W)
  have hdl := BatP.sumB_len (f, l, prev)
  generalize BatP.putB (f, l, prev) = pb at K1 K2
  generalize BatP.sumB (f, l, prev) = sb at K3 K4 hdl
  generalize BatP.isB (f, l, prev) = ib at K5 K6
  obtain ⟨po, pe⟩ := pb
  obtain ⟨dg, de⟩ := sb
  dsimp only at K1 K2 K3 K4 hdl
  have HD := bdeq_same dg hdl
  have HDG := Lib.hid (show dg.length = BatP.zeros.length from hdl)
  have HDL := Lib.hid hdl
  have z1 : IntKind.u64.wrap (n : Int) = (n : Int) := by simp [IntKind.wrap, IntKind.bits, IntKind.signed]; omega
  clear hn hE hR hp hf hG hdl
  go_enter Tryd.func3, Tryd.ntmps3
  have F := sh.facts; (try simp only [Hp.Facts, Hp.CellsAt, BatP.cellsAt_bt, BatP.cellsAt_bt, Nat.reduceAdd, List.cons_append, List.nil_append] at F)
  have tok_b1 : True := trivial
  go_wp2_with (first
      | ((with_reducible refine Hp.at_ld 27 ?_); (first | refine Hp.bld_g 0 sh rfl rfl rfl (by kernel_rfl) (BatP.bt_size HPL.out) ?_ | refine Hp.bld_g 1 sh rfl rfl rfl (by kernel_rfl) (BatP.bt_size HPL.out) ?_ | refine Hp.bld_g 2 sh rfl rfl rfl (by kernel_rfl) (BatP.bt_size HPL.out) ?_); go_simp)
      | ((first | (with_reducible refine Hp.wpl_box sh ?_ ?_) | (with_reducible refine Hp.wpl_alloc Tryd.z_ev sh ?_ ?_) | (with_reducible refine Hp.wpl_alloc Tryd.z_bt sh ?_ ?_) | (with_reducible refine Hp.wpl_alloc Tryd.z_dg sh ?_ ?_) | (with_reducible refine Hp.atl_store ?_ ?_)); exact rfl; (try ((first | refine Hp.ws 0 sh rfl ?_ ?_ | refine Hp.ws 1 sh rfl ?_ ?_ | refine Hp.ws 2 sh rfl ?_ ?_ | refine Hp.ws 3 sh rfl ?_ ?_ | refine Hp.ws 4 sh rfl ?_ ?_ | refine Hp.ws 5 sh rfl ?_ ?_ | refine Hp.ws 6 sh rfl ?_ ?_); kernel_rfl)); clear sh; (try clear F); go_simp; (first | (have tok := tok_b1; clear tok tok_b1; intro b1 w1 sh) | intro b w1 sh | intro w1 sh); have F := sh.facts; (try simp only [Hp.Facts, Hp.CellsAt, BatP.cellsAt_bt, BatP.cellsAt_bt, Nat.reduceAdd, List.cons_append, List.nil_append] at F))
      | fail)
  go_fit (KB.out _)
  rintro e w1 ⟨rfl, hb⟩
  replace sh := sh.call hb; clear hb; (try clear F); have F := sh.facts; (try simp only [Hp.Facts, Hp.CellsAt, BatP.cellsAt_bt, BatP.cellsAt_bt, Nat.reduceAdd, List.cons_append, List.nil_append] at F)
  go_wp2_with (first
      | ((with_reducible refine Hp.at_ld 27 ?_); (first | refine Hp.bld_g 0 sh rfl rfl rfl (by kernel_rfl) (BatP.bt_size HPL.out) ?_ | refine Hp.bld_g 1 sh rfl rfl rfl (by kernel_rfl) (BatP.bt_size HPL.out) ?_ | refine Hp.bld_g 2 sh rfl rfl rfl (by kernel_rfl) (BatP.bt_size HPL.out) ?_); go_simp)
      | ((first | (with_reducible refine Hp.wpl_box sh ?_ ?_) | (with_reducible refine Hp.wpl_alloc Tryd.z_ev sh ?_ ?_) | (with_reducible refine Hp.wpl_alloc Tryd.z_bt sh ?_ ?_) | (with_reducible refine Hp.wpl_alloc Tryd.z_dg sh ?_ ?_) | (with_reducible refine Hp.atl_store ?_ ?_)); exact rfl; (try ((first | refine Hp.ws 0 sh rfl ?_ ?_ | refine Hp.ws 1 sh rfl ?_ ?_ | refine Hp.ws 2 sh rfl ?_ ?_ | refine Hp.ws 3 sh rfl ?_ ?_ | refine Hp.ws 4 sh rfl ?_ ?_ | refine Hp.ws 5 sh rfl ?_ ?_ | refine Hp.ws 6 sh rfl ?_ ?_); kernel_rfl)); clear sh; (try clear F); go_simp; (first | intro b w1 sh | intro w1 sh); have F := sh.facts; (try simp only [Hp.Facts, Hp.CellsAt, BatP.cellsAt_bt, BatP.cellsAt_bt, Nat.reduceAdd, List.cons_append, List.nil_append] at F))
      | fail)
  go_fit (K1.out _ sh.data.1)
  rintro e w1 ⟨rfl, hb⟩
  replace sh := sh.call hb; clear hb; (try clear F); have F := sh.facts; (try simp only [Hp.Facts, Hp.CellsAt, BatP.cellsAt_bt, BatP.cellsAt_bt, Nat.reduceAdd, List.cons_append, List.nil_append] at F)
  go_wp2_with (first
      | ((with_reducible refine Hp.at_ld 27 ?_); (first | refine Hp.bld_g 0 sh rfl rfl rfl (by kernel_rfl) (BatP.bt_size HPL.out) ?_ | refine Hp.bld_g 1 sh rfl rfl rfl (by kernel_rfl) (BatP.bt_size HPL.out) ?_ | refine Hp.bld_g 2 sh rfl rfl rfl (by kernel_rfl) (BatP.bt_size HPL.out) ?_); go_simp)
      | ((first | (with_reducible refine Hp.wpl_box sh ?_ ?_) | (with_reducible refine Hp.wpl_alloc Tryd.z_ev sh ?_ ?_) | (with_reducible refine Hp.wpl_alloc Tryd.z_bt sh ?_ ?_) | (with_reducible refine Hp.wpl_alloc Tryd.z_dg sh ?_ ?_) | (with_reducible refine Hp.atl_store ?_ ?_)); exact rfl; (try ((first | refine Hp.ws 0 sh rfl ?_ ?_ | refine Hp.ws 1 sh rfl ?_ ?_ | refine Hp.ws 2 sh rfl ?_ ?_ | refine Hp.ws 3 sh rfl ?_ ?_ | refine Hp.ws 4 sh rfl ?_ ?_ | refine Hp.ws 5 sh rfl ?_ ?_ | refine Hp.ws 6 sh rfl ?_ ?_); kernel_rfl)); clear sh; (try clear F); go_simp; (first | intro b w1 sh | intro w1 sh); have F := sh.facts; (try simp only [Hp.Facts, Hp.CellsAt, BatP.cellsAt_bt, BatP.cellsAt_bt, Nat.reduceAdd, List.cons_append, List.nil_append] at F))
      | fail)
  go_fit (K2.out _ sh.data.1)
  rintro e w1 ⟨rfl, hb⟩
  replace sh := sh.call hb; clear hb; (try clear F); have F := sh.facts; (try simp only [Hp.Facts, Hp.CellsAt, BatP.cellsAt_bt, BatP.cellsAt_bt, Nat.reduceAdd, List.cons_append, List.nil_append] at F)
  go_wp2_with (first
      | ((with_reducible refine Hp.at_ld 27 ?_); (first | refine Hp.bld_g 0 sh rfl rfl rfl (by kernel_rfl) (BatP.bt_size HPL.out) ?_ | refine Hp.bld_g 1 sh rfl rfl rfl (by kernel_rfl) (BatP.bt_size HPL.out) ?_ | refine Hp.bld_g 2 sh rfl rfl rfl (by kernel_rfl) (BatP.bt_size HPL.out) ?_); go_simp)
      | ((first | (with_reducible refine Hp.wpl_box sh ?_ ?_) | (with_reducible refine Hp.wpl_alloc Tryd.z_ev sh ?_ ?_) | (with_reducible refine Hp.wpl_alloc Tryd.z_bt sh ?_ ?_) | (with_reducible refine Hp.wpl_alloc Tryd.z_dg sh ?_ ?_) | (with_reducible refine Hp.atl_store ?_ ?_)); exact rfl; (try ((first | refine Hp.ws 0 sh rfl ?_ ?_ | refine Hp.ws 1 sh rfl ?_ ?_ | refine Hp.ws 2 sh rfl ?_ ?_ | refine Hp.ws 3 sh rfl ?_ ?_ | refine Hp.ws 4 sh rfl ?_ ?_ | refine Hp.ws 5 sh rfl ?_ ?_ | refine Hp.ws 6 sh rfl ?_ ?_); kernel_rfl)); clear sh; (try clear F); go_simp; (first | intro b w1 sh | intro w1 sh); have F := sh.facts; (try simp only [Hp.Facts, Hp.CellsAt, BatP.cellsAt_bt, BatP.cellsAt_bt, Nat.reduceAdd, List.cons_append, List.nil_append] at F))
      | fail)
  go_fit (K3.out _ sh.data.1 sh.data.2)
  rintro e w1 ⟨rfl, hb⟩
  replace sh := sh.call hb; clear hb; (try clear F); have F := sh.facts; (try simp only [Hp.Facts, Hp.CellsAt, BatP.cellsAt_bt, BatP.cellsAt_bt, Nat.reduceAdd, List.cons_append, List.nil_append] at F)
  have tok_b7 : True := trivial
  go_wp2_with (first
      | ((with_reducible refine Hp.at_st 25 ?_ ?_); (rotate_left; exact rfl); (refine Hp.bst_arr 0 sh rfl rfl rfl HDG.out (by kernel_rfl) ?_); clear sh; (try clear F); go_simp; intro w1 sh; (have F := sh.facts; (try simp only [BatP.cellsAt_bt, Hp.Facts, Hp.CellsAt, BatP.cellsAt_bt, BatP.cellsAt_bt, Nat.reduceAdd, List.cons_append, List.nil_append] at F)))
      | ((with_reducible refine Hp.at_ld 27 ?_); (first | refine Hp.bld_g 0 sh rfl rfl rfl (by kernel_rfl) (BatP.bt_size HPL.out) ?_ | refine Hp.bld_g 1 sh rfl rfl rfl (by kernel_rfl) (BatP.bt_size HPL.out) ?_ | refine Hp.bld_g 2 sh rfl rfl rfl (by kernel_rfl) (BatP.bt_size HPL.out) ?_); go_simp)
      | ((first | (with_reducible refine Hp.wpl_box sh ?_ ?_) | (with_reducible refine Hp.wpl_alloc Tryd.z_ev sh ?_ ?_) | (with_reducible refine Hp.wpl_alloc Tryd.z_bt sh ?_ ?_) | (with_reducible refine Hp.wpl_alloc Tryd.z_dg sh ?_ ?_) | (with_reducible refine Hp.atl_store ?_ ?_)); exact rfl; (try ((first | refine Hp.ws 0 sh rfl ?_ ?_ | refine Hp.ws 1 sh rfl ?_ ?_ | refine Hp.ws 2 sh rfl ?_ ?_ | refine Hp.ws 3 sh rfl ?_ ?_ | refine Hp.ws 4 sh rfl ?_ ?_ | refine Hp.ws 5 sh rfl ?_ ?_ | refine Hp.ws 6 sh rfl ?_ ?_); kernel_rfl)); clear sh; (try clear F); go_simp; (first | (have tok := tok_b7; clear tok tok_b7; intro b7 w1 sh) | intro b w1 sh | intro w1 sh); have F := sh.facts; (try simp only [Hp.Facts, Hp.CellsAt, BatP.cellsAt_bt, BatP.cellsAt_bt, Nat.reduceAdd, List.cons_append, List.nil_append] at F))
      | fail)
  go_fit (K4.out _ sh.data.1)
  rintro e w1 ⟨rfl, hb⟩
  replace sh := sh.call hb; clear hb; (try clear F); have F := sh.facts; (try simp only [Hp.Facts, Hp.CellsAt, BatP.cellsAt_bt, BatP.cellsAt_bt, Nat.reduceAdd, List.cons_append, List.nil_append] at F)
  have tok_b9 : True := trivial
  go_wp2_with (first
      | ((with_reducible refine Hp.at_st 25 ?_ ?_); (rotate_left; exact rfl); (refine Hp.bst_arr 0 sh rfl rfl rfl HDG.out (by kernel_rfl) ?_); clear sh; (try clear F); go_simp; intro w1 sh; (have F := sh.facts; (try simp only [BatP.cellsAt_bt, Hp.Facts, Hp.CellsAt, BatP.cellsAt_bt, BatP.cellsAt_bt, Nat.reduceAdd, List.cons_append, List.nil_append] at F)))
      | ((first | (with_reducible refine Hp.wpl_box sh ?_ ?_) | (with_reducible refine Hp.wpl_alloc Tryd.z_ev sh ?_ ?_) | (with_reducible refine Hp.wpl_alloc Tryd.z_bt sh ?_ ?_) | (with_reducible refine Hp.wpl_alloc Tryd.z_dg sh ?_ ?_) | (with_reducible refine Hp.atl_store ?_ ?_)); exact rfl; (try ((first | refine Hp.ws 0 sh rfl ?_ ?_ | refine Hp.ws 1 sh rfl ?_ ?_ | refine Hp.ws 2 sh rfl ?_ ?_ | refine Hp.ws 3 sh rfl ?_ ?_ | refine Hp.ws 4 sh rfl ?_ ?_ | refine Hp.ws 5 sh rfl ?_ ?_ | refine Hp.ws 6 sh rfl ?_ ?_); kernel_rfl)); clear sh; (try clear F); go_simp; (first | (have tok := tok_b9; clear tok tok_b9; intro b9 w1 sh) | intro b w1 sh | intro w1 sh); have F := sh.facts; (try simp only [Hp.Facts, Hp.CellsAt, BatP.cellsAt_bt, BatP.cellsAt_bt, Nat.reduceAdd, List.cons_append, List.nil_append] at F))
      | fail)
  refine Hp.region_soft (by kernel_rfl) sh (fun _ q => q) ?_; clear sh; (try clear F)
  (try simp only [])
  (refine Hp.soft_call (i := 0) (oi := ⟨some 33, Op.call { callee := Callee.value (Operand.func 10), args := #[], argTypes := #[] }, _, _, _, none⟩) _ _ _ rfl (by kernel_rfl) (by kernel_rfl) (by kernel_rfl) (fun _ _ _ h => h) (fun _ q => q) (by rfl) (fun W hW => by go_simp) (fun W hW => (K0.out W)) ?_; (try simp only [Act.put, List.setIfInBounds_toArray, List.set_cons_zero, List.set_cons_succ]))
  (refine Hp.soft_take (i := 1) (oi := ⟨some 34, Op.move (Operand.tmp 33), _, _, _, none⟩) _ rfl (by kernel_rfl) (by kernel_rfl) (by kernel_rfl) (fun _ _ _ h => h) (fun _ q => q) (by rfl) (fun W hW => by go_simp; (try with_reducible rfl)) ?_; (try simp only [Act.put, List.setIfInBounds_toArray, List.set_cons_zero, List.set_cons_succ]))
  (first | (refine Hp.soft_take (i := 2) (oi := ⟨some 35, Op.move (Operand.tmp 3), _, _, _, some (1, true)⟩) _ rfl (by kernel_rfl) (by kernel_rfl) (by kernel_rfl) (fun _ _ _ h => h) (fun _ q => q) (by rfl) (fun W hW => by go_simp; (try with_reducible rfl)) ?_; (try simp only [Act.put, List.setIfInBounds_toArray, List.set_cons_zero, List.set_cons_succ])) | (refine Hp.soft_skip (i := 2) (oi := ⟨some 35, Op.move (Operand.tmp 3), _, _, _, some (1, true)⟩) rfl (by kernel_rfl) (by kernel_rfl) (by kernel_rfl) (fun _ _ _ h => h) (fun _ q => q) (by rfl) ?_; (try simp only [Act.put, List.setIfInBounds_toArray, List.set_cons_zero, List.set_cons_succ])))
  (first | (refine Hp.soft_take (i := 3) (oi := ⟨some 36, Op.move (Operand.tmp 5), _, _, _, some (1, true)⟩) _ rfl (by kernel_rfl) (by kernel_rfl) (by kernel_rfl) (fun _ _ _ h => h) (fun _ q => q) (by rfl) (fun W hW => by go_simp; (try with_reducible rfl)) ?_; (try simp only [Act.put, List.setIfInBounds_toArray, List.set_cons_zero, List.set_cons_succ])) | (refine Hp.soft_skip (i := 3) (oi := ⟨some 36, Op.move (Operand.tmp 5), _, _, _, some (1, true)⟩) rfl (by kernel_rfl) (by kernel_rfl) (by kernel_rfl) (fun _ _ _ h => h) (fun _ q => q) (by rfl) ?_; (try simp only [Act.put, List.setIfInBounds_toArray, List.set_cons_zero, List.set_cons_succ])))
  (first | (refine Hp.soft_take (i := 4) (oi := ⟨some 37, Op.binOp BinOp.eql 9 (Operand.tmp 35) (Operand.tmp 36) 9, _, _, _, some (1, true)⟩) _ rfl (by kernel_rfl) (by kernel_rfl) (by kernel_rfl) (fun _ _ _ h => h) (fun _ q => q) (by rfl) (fun W hW => by go_simp; (try with_reducible rfl)) ?_; (try simp only [Act.put, List.setIfInBounds_toArray, List.set_cons_zero, List.set_cons_succ])) | (refine Hp.soft_skip (i := 4) (oi := ⟨some 37, Op.binOp BinOp.eql 9 (Operand.tmp 35) (Operand.tmp 36) 9, _, _, _, some (1, true)⟩) rfl (by kernel_rfl) (by kernel_rfl) (by kernel_rfl) (fun _ _ _ h => h) (fun _ q => q) (by rfl) ?_; (try simp only [Act.put, List.setIfInBounds_toArray, List.set_cons_zero, List.set_cons_succ])))
  (refine Hp.soft_take (i := 5) (oi := ⟨some 38, Op.pick (Operand.tmp 34) (Operand.tmp 37) (Operand.const (Value.bool false)), _, _, _, none⟩) _ rfl (by kernel_rfl) (by kernel_rfl) (by kernel_rfl) (fun _ _ _ h => h) (fun _ q => q) (by rfl) (fun W hW => by go_simp; (try with_reducible rfl)) ?_; (try simp only [Act.put, List.setIfInBounds_toArray, List.set_cons_zero, List.set_cons_succ]))
  (refine Hp.soft_take (i := 6) (oi := ⟨some 39, Op.move (Operand.tmp 38), _, _, _, none⟩) _ rfl (by kernel_rfl) (by kernel_rfl) (by kernel_rfl) (fun _ _ _ h => h) (fun _ q => q) (by rfl) (fun W hW => by go_simp; (try with_reducible rfl)) ?_; (try simp only [Act.put, List.setIfInBounds_toArray, List.set_cons_zero, List.set_cons_succ]))
  (first | (refine Hp.soft_take (i := 7) (oi := ⟨some 40, Op.move (Operand.tmp 4), _, _, _, some (6, true)⟩) _ rfl (by kernel_rfl) (by kernel_rfl) (by kernel_rfl) (fun _ _ _ h => h) (fun _ q => q) (by rfl) (fun W hW => by go_simp; (try with_reducible rfl)) ?_; (try simp only [Act.put, List.setIfInBounds_toArray, List.set_cons_zero, List.set_cons_succ])) | (refine Hp.soft_skip (i := 7) (oi := ⟨some 40, Op.move (Operand.tmp 4), _, _, _, some (6, true)⟩) rfl (by kernel_rfl) (by kernel_rfl) (by kernel_rfl) (fun _ _ _ h => h) (fun _ q => q) (by rfl) ?_; (try simp only [Act.put, List.setIfInBounds_toArray, List.set_cons_zero, List.set_cons_succ])))
  (first | (refine Hp.soft_take (i := 8) (oi := ⟨some 41, Op.move (Operand.tmp 6), _, _, _, some (6, true)⟩) _ rfl (by kernel_rfl) (by kernel_rfl) (by kernel_rfl) (fun _ _ _ h => h) (fun _ q => q) (by rfl) (fun W hW => by go_simp; (try with_reducible rfl)) ?_; (try simp only [Act.put, List.setIfInBounds_toArray, List.set_cons_zero, List.set_cons_succ])) | (refine Hp.soft_skip (i := 8) (oi := ⟨some 41, Op.move (Operand.tmp 6), _, _, _, some (6, true)⟩) rfl (by kernel_rfl) (by kernel_rfl) (by kernel_rfl) (fun _ _ _ h => h) (fun _ q => q) (by rfl) ?_; (try simp only [Act.put, List.setIfInBounds_toArray, List.set_cons_zero, List.set_cons_succ])))
  (first | (refine Hp.soft_take (i := 9) (oi := ⟨some 42, Op.binOp BinOp.eql 29 (Operand.tmp 40) (Operand.tmp 41) 29, _, _, _, some (6, true)⟩) _ rfl (by kernel_rfl) (by kernel_rfl) (by kernel_rfl) (fun _ _ _ h => h) (fun _ q => q) (by rfl) (fun W hW => by go_simp; (try with_reducible rfl)) ?_; (try simp only [Act.put, List.setIfInBounds_toArray, List.set_cons_zero, List.set_cons_succ])) | (refine Hp.soft_skip (i := 9) (oi := ⟨some 42, Op.binOp BinOp.eql 29 (Operand.tmp 40) (Operand.tmp 41) 29, _, _, _, some (6, true)⟩) rfl (by kernel_rfl) (by kernel_rfl) (by kernel_rfl) (fun _ _ _ h => h) (fun _ q => q) (by rfl) ?_; (try simp only [Act.put, List.setIfInBounds_toArray, List.set_cons_zero, List.set_cons_succ])))
  (refine Hp.soft_take (i := 10) (oi := ⟨some 43, Op.pick (Operand.tmp 39) (Operand.tmp 42) (Operand.const (Value.bool false)), _, _, _, none⟩) _ rfl (by kernel_rfl) (by kernel_rfl) (by kernel_rfl) (fun _ _ _ h => h) (fun _ q => q) (by rfl) (fun W hW => by go_simp; (try with_reducible rfl)) ?_; (try simp only [Act.put, List.setIfInBounds_toArray, List.set_cons_zero, List.set_cons_succ]))
  (refine Hp.soft_take (i := 11) (oi := ⟨some 44, Op.move (Operand.tmp 43), _, _, _, none⟩) _ rfl (by kernel_rfl) (by kernel_rfl) (by kernel_rfl) (fun _ _ _ h => h) (fun _ q => q) (by rfl) (fun W hW => by go_simp; (try with_reducible rfl)) ?_; (try simp only [Act.put, List.setIfInBounds_toArray, List.set_cons_zero, List.set_cons_succ]))
  (first | (refine Hp.soft_take (i := 12) (oi := ⟨some 45, Op.load 25 (Operand.tmp 7), _, _, _, some (11, true)⟩) _ rfl (by kernel_rfl) (by kernel_rfl) (by kernel_rfl) (fun _ _ _ h => h) (fun _ q => q) (by rfl) (fun W hW => (Hp.bexec_load 1 hW rfl rfl (by kernel_rfl) (BatP.dg_size HDL.out))) ?_; (try simp only [Act.put, List.setIfInBounds_toArray, List.set_cons_zero, List.set_cons_succ])) | (refine Hp.soft_skip (i := 12) (oi := ⟨some 45, Op.load 25 (Operand.tmp 7), _, _, _, some (11, true)⟩) rfl (by kernel_rfl) (by kernel_rfl) (by kernel_rfl) (fun _ _ _ h => h) (fun _ q => q) (by rfl) ?_; (try simp only [Act.put, List.setIfInBounds_toArray, List.set_cons_zero, List.set_cons_succ])))
  (first | (refine Hp.soft_take (i := 13) (oi := ⟨some 46, Op.load 25 (Operand.tmp 9), _, _, _, some (11, true)⟩) _ rfl (by kernel_rfl) (by kernel_rfl) (by kernel_rfl) (fun _ _ _ h => h) (fun _ q => q) (by rfl) (fun W hW => (Hp.bexec_load 0 hW rfl rfl (by kernel_rfl) (BatP.dg_size HDL.out))) ?_; (try simp only [Act.put, List.setIfInBounds_toArray, List.set_cons_zero, List.set_cons_succ])) | (refine Hp.soft_skip (i := 13) (oi := ⟨some 46, Op.load 25 (Operand.tmp 9), _, _, _, some (11, true)⟩) rfl (by kernel_rfl) (by kernel_rfl) (by kernel_rfl) (fun _ _ _ h => h) (fun _ q => q) (by rfl) ?_; (try simp only [Act.put, List.setIfInBounds_toArray, List.set_cons_zero, List.set_cons_succ])))
  (first | (refine Hp.soft_take (i := 14) (oi := ⟨some 47, Op.binOp BinOp.eql 25 (Operand.tmp 45) (Operand.tmp 46) 25, _, _, _, some (11, true)⟩) _ rfl (by kernel_rfl) (by kernel_rfl) (by kernel_rfl) (fun _ _ _ h => h) (fun _ q => q) (by rfl) (fun W hW => by go_simp; (try with_reducible rfl)) ?_; (try simp only [Act.put, List.setIfInBounds_toArray, List.set_cons_zero, List.set_cons_succ])) | (refine Hp.soft_skip (i := 14) (oi := ⟨some 47, Op.binOp BinOp.eql 25 (Operand.tmp 45) (Operand.tmp 46) 25, _, _, _, some (11, true)⟩) rfl (by kernel_rfl) (by kernel_rfl) (by kernel_rfl) (fun _ _ _ h => h) (fun _ q => q) (by rfl) ?_; (try simp only [Act.put, List.setIfInBounds_toArray, List.set_cons_zero, List.set_cons_succ])))
  (refine Hp.soft_take (i := 15) (oi := ⟨some 48, Op.pick (Operand.tmp 44) (Operand.tmp 47) (Operand.const (Value.bool false)), _, _, _, none⟩) _ rfl (by kernel_rfl) (by kernel_rfl) (by kernel_rfl) (fun _ _ _ h => h) (fun _ q => q) (by rfl) (fun W hW => by go_simp; (try with_reducible rfl)) ?_; (try simp only [Act.put, List.setIfInBounds_toArray, List.set_cons_zero, List.set_cons_succ]))
  (refine Hp.soft_take (i := 16) (oi := ⟨some 49, Op.move (Operand.tmp 48), _, _, _, none⟩) _ rfl (by kernel_rfl) (by kernel_rfl) (by kernel_rfl) (fun _ _ _ h => h) (fun _ q => q) (by rfl) (fun W hW => by go_simp; (try with_reducible rfl)) ?_; (try simp only [Act.put, List.setIfInBounds_toArray, List.set_cons_zero, List.set_cons_succ]))
  (first | (refine Hp.soft_take (i := 17) (oi := ⟨some 50, Op.move (Operand.tmp 8), _, _, _, some (16, true)⟩) _ rfl (by kernel_rfl) (by kernel_rfl) (by kernel_rfl) (fun _ _ _ h => h) (fun _ q => q) (by rfl) (fun W hW => by go_simp; (try with_reducible rfl)) ?_; (try simp only [Act.put, List.setIfInBounds_toArray, List.set_cons_zero, List.set_cons_succ])) | (refine Hp.soft_skip (i := 17) (oi := ⟨some 50, Op.move (Operand.tmp 8), _, _, _, some (16, true)⟩) rfl (by kernel_rfl) (by kernel_rfl) (by kernel_rfl) (fun _ _ _ h => h) (fun _ q => q) (by rfl) ?_; (try simp only [Act.put, List.setIfInBounds_toArray, List.set_cons_zero, List.set_cons_succ])))
  (first | (refine Hp.soft_take (i := 18) (oi := ⟨some 51, Op.move (Operand.tmp 10), _, _, _, some (16, true)⟩) _ rfl (by kernel_rfl) (by kernel_rfl) (by kernel_rfl) (fun _ _ _ h => h) (fun _ q => q) (by rfl) (fun W hW => by go_simp; (try with_reducible rfl)) ?_; (try simp only [Act.put, List.setIfInBounds_toArray, List.set_cons_zero, List.set_cons_succ])) | (refine Hp.soft_skip (i := 18) (oi := ⟨some 51, Op.move (Operand.tmp 10), _, _, _, some (16, true)⟩) rfl (by kernel_rfl) (by kernel_rfl) (by kernel_rfl) (fun _ _ _ h => h) (fun _ q => q) (by rfl) ?_; (try simp only [Act.put, List.setIfInBounds_toArray, List.set_cons_zero, List.set_cons_succ])))
  (first | (refine Hp.soft_take (i := 19) (oi := ⟨some 52, Op.binOp BinOp.eql 29 (Operand.tmp 50) (Operand.tmp 51) 29, _, _, _, some (16, true)⟩) _ rfl (by kernel_rfl) (by kernel_rfl) (by kernel_rfl) (fun _ _ _ h => h) (fun _ q => q) (by rfl) (fun W hW => by go_simp; (try with_reducible rfl)) ?_; (try simp only [Act.put, List.setIfInBounds_toArray, List.set_cons_zero, List.set_cons_succ])) | (refine Hp.soft_skip (i := 19) (oi := ⟨some 52, Op.binOp BinOp.eql 29 (Operand.tmp 50) (Operand.tmp 51) 29, _, _, _, some (16, true)⟩) rfl (by kernel_rfl) (by kernel_rfl) (by kernel_rfl) (fun _ _ _ h => h) (fun _ q => q) (by rfl) ?_; (try simp only [Act.put, List.setIfInBounds_toArray, List.set_cons_zero, List.set_cons_succ])))
  (refine Hp.soft_take (i := 20) (oi := ⟨some 53, Op.pick (Operand.tmp 49) (Operand.tmp 52) (Operand.const (Value.bool false)), _, _, _, none⟩) _ rfl (by kernel_rfl) (by kernel_rfl) (by kernel_rfl) (fun _ _ _ h => h) (fun _ q => q) (by rfl) (fun W hW => by go_simp; (try with_reducible rfl)) ?_; (try simp only [Act.put, List.setIfInBounds_toArray, List.set_cons_zero, List.set_cons_succ]))
  (refine Hp.soft_take (i := 21) (oi := ⟨some 54, Op.move (Operand.tmp 53), _, _, _, none⟩) _ rfl (by kernel_rfl) (by kernel_rfl) (by kernel_rfl) (fun _ _ _ h => h) (fun _ q => q) (by rfl) (fun W hW => by go_simp; (try with_reducible rfl)) ?_; (try simp only [Act.put, List.setIfInBounds_toArray, List.set_cons_zero, List.set_cons_succ]))
  (first | (refine Hp.soft_take (i := 22) (oi := ⟨some 55, Op.load 27 (Operand.tmp 1), _, _, _, some (21, true)⟩) _ rfl (by kernel_rfl) (by kernel_rfl) (by kernel_rfl) (fun _ _ _ h => h) (fun _ q => q) (by rfl) (fun W hW => (Hp.bexec_load 2 hW rfl rfl (by kernel_rfl) (BatP.bt_size HPL.out))) ?_; (try simp only [Act.put, List.setIfInBounds_toArray, List.set_cons_zero, List.set_cons_succ])) | (refine Hp.soft_skip (i := 22) (oi := ⟨some 55, Op.load 27 (Operand.tmp 1), _, _, _, some (21, true)⟩) rfl (by kernel_rfl) (by kernel_rfl) (by kernel_rfl) (fun _ _ _ h => h) (fun _ q => q) (by rfl) ?_; (try simp only [Act.put, List.setIfInBounds_toArray, List.set_cons_zero, List.set_cons_succ])))
  (first | (refine Hp.soft_call (i := 23) (oi := ⟨some 56, Op.call { callee := Callee.value (Operand.func 11), args := #[Operand.tmp 55], argTypes := #[27] }, _, _, _, some (21, true)⟩) _ _ _ rfl (by kernel_rfl) (by kernel_rfl) (by kernel_rfl) (fun _ _ _ h => h) (fun _ q => q) (by rfl) (fun W hW => by go_simp) (fun W hW => (K5.out W hW.data.1)) ?_; (try simp only [Act.put, List.setIfInBounds_toArray, List.set_cons_zero, List.set_cons_succ])) | (refine Hp.soft_skip (i := 23) (oi := ⟨some 56, Op.call { callee := Callee.value (Operand.func 11), args := #[Operand.tmp 55], argTypes := #[27] }, _, _, _, some (21, true)⟩) rfl (by kernel_rfl) (by kernel_rfl) (by kernel_rfl) (fun _ _ _ h => h) (fun _ q => q) (by rfl) ?_; (try simp only [Act.put, List.setIfInBounds_toArray, List.set_cons_zero, List.set_cons_succ])))
  (first | (refine Hp.soft_take (i := 24) (oi := ⟨some 57, Op.load 27 (Operand.tmp 1), _, _, _, some (21, true)⟩) _ rfl (by kernel_rfl) (by kernel_rfl) (by kernel_rfl) (fun _ _ _ h => h) (fun _ q => q) (by rfl) (fun W hW => (Hp.bexec_load 2 hW rfl rfl (by kernel_rfl) (BatP.bt_size HPL.out))) ?_; (try simp only [Act.put, List.setIfInBounds_toArray, List.set_cons_zero, List.set_cons_succ])) | (refine Hp.soft_skip (i := 24) (oi := ⟨some 57, Op.load 27 (Operand.tmp 1), _, _, _, some (21, true)⟩) rfl (by kernel_rfl) (by kernel_rfl) (by kernel_rfl) (fun _ _ _ h => h) (fun _ q => q) (by rfl) ?_; (try simp only [Act.put, List.setIfInBounds_toArray, List.set_cons_zero, List.set_cons_succ])))
  (first | (refine Hp.soft_call (i := 25) (oi := ⟨some 58, Op.call { callee := Callee.value (Operand.func 12), args := #[Operand.tmp 57], argTypes := #[27] }, _, _, _, some (21, true)⟩) _ _ _ rfl (by kernel_rfl) (by kernel_rfl) (by kernel_rfl) (fun _ _ _ h => h) (fun _ q => q) (by rfl) (fun W hW => by go_simp) (fun W hW => (K6.out W hW.data.1)) ?_; (try simp only [Act.put, List.setIfInBounds_toArray, List.set_cons_zero, List.set_cons_succ])) | (refine Hp.soft_skip (i := 25) (oi := ⟨some 58, Op.call { callee := Callee.value (Operand.func 12), args := #[Operand.tmp 57], argTypes := #[27] }, _, _, _, some (21, true)⟩) rfl (by kernel_rfl) (by kernel_rfl) (by kernel_rfl) (fun _ _ _ h => h) (fun _ q => q) (by rfl) ?_; (try simp only [Act.put, List.setIfInBounds_toArray, List.set_cons_zero, List.set_cons_succ])))
  (first | (refine Hp.soft_take (i := 26) (oi := ⟨some 59, Op.binOp BinOp.eql 4 (Operand.tmp 56) (Operand.tmp 58) 4, _, _, _, some (21, true)⟩) _ rfl (by kernel_rfl) (by kernel_rfl) (by kernel_rfl) (fun _ _ _ h => h) (fun _ q => q) (by rfl) (fun W hW => by go_simp; (try with_reducible rfl)) ?_; (try simp only [Act.put, List.setIfInBounds_toArray, List.set_cons_zero, List.set_cons_succ])) | (refine Hp.soft_skip (i := 26) (oi := ⟨some 59, Op.binOp BinOp.eql 4 (Operand.tmp 56) (Operand.tmp 58) 4, _, _, _, some (21, true)⟩) rfl (by kernel_rfl) (by kernel_rfl) (by kernel_rfl) (fun _ _ _ h => h) (fun _ q => q) (by rfl) ?_; (try simp only [Act.put, List.setIfInBounds_toArray, List.set_cons_zero, List.set_cons_succ])))
  (refine Hp.soft_take (i := 27) (oi := ⟨some 60, Op.pick (Operand.tmp 54) (Operand.tmp 59) (Operand.const (Value.bool false)), _, _, _, none⟩) _ rfl (by kernel_rfl) (by kernel_rfl) (by kernel_rfl) (fun _ _ _ h => h) (fun _ q => q) (by rfl) (fun W hW => by go_simp; (try with_reducible rfl)) ?_; (try simp only [Act.put, List.setIfInBounds_toArray, List.set_cons_zero, List.set_cons_succ]))
  (refine Hp.soft_take (i := 28) (oi := ⟨some 61, Op.move (Operand.tmp 60), _, _, _, none⟩) _ rfl (by kernel_rfl) (by kernel_rfl) (by kernel_rfl) (fun _ _ _ h => h) (fun _ q => q) (by rfl) (fun W hW => by go_simp; (try with_reducible rfl)) ?_; (try simp only [Act.put, List.setIfInBounds_toArray, List.set_cons_zero, List.set_cons_succ]))
  (first | (refine Hp.soft_take (i := 29) (oi := ⟨some 62, Op.load 27 (Operand.tmp 1), _, _, _, some (28, true)⟩) _ rfl (by kernel_rfl) (by kernel_rfl) (by kernel_rfl) (fun _ _ _ h => h) (fun _ q => q) (by rfl) (fun W hW => (Hp.bexec_load 2 hW rfl rfl (by kernel_rfl) (BatP.bt_size HPL.out))) ?_; (try simp only [Act.put, List.setIfInBounds_toArray, List.set_cons_zero, List.set_cons_succ])) | (refine Hp.soft_skip (i := 29) (oi := ⟨some 62, Op.load 27 (Operand.tmp 1), _, _, _, some (28, true)⟩) rfl (by kernel_rfl) (by kernel_rfl) (by kernel_rfl) (fun _ _ _ h => h) (fun _ q => q) (by rfl) ?_; (try simp only [Act.put, List.setIfInBounds_toArray, List.set_cons_zero, List.set_cons_succ])))
  (first | (refine Hp.soft_call (i := 30) (oi := ⟨some 63, Op.call { callee := Callee.value (Operand.func 13), args := #[Operand.tmp 62], argTypes := #[27] }, _, _, _, some (28, true)⟩) _ _ _ rfl (by kernel_rfl) (by kernel_rfl) (by kernel_rfl) (fun _ _ _ h => h) (fun _ q => q) (by rfl) (fun W hW => by go_simp) (fun W hW => (K7.out W)) ?_; (try simp only [Act.put, List.setIfInBounds_toArray, List.set_cons_zero, List.set_cons_succ])) | (refine Hp.soft_skip (i := 30) (oi := ⟨some 63, Op.call { callee := Callee.value (Operand.func 13), args := #[Operand.tmp 62], argTypes := #[27] }, _, _, _, some (28, true)⟩) rfl (by kernel_rfl) (by kernel_rfl) (by kernel_rfl) (fun _ _ _ h => h) (fun _ q => q) (by rfl) ?_; (try simp only [Act.put, List.setIfInBounds_toArray, List.set_cons_zero, List.set_cons_succ])))
  (first | (refine Hp.soft_take (i := 31) (oi := ⟨some 64, Op.fieldAddr 27 (Operand.tmp 1) 0, _, _, _, some (28, true)⟩) _ rfl (by kernel_rfl) (by kernel_rfl) (by kernel_rfl) (fun _ _ _ h => h) (fun _ q => q) (by rfl) (fun W hW => by go_simp; (try with_reducible rfl)) ?_; (try simp only [Act.put, List.setIfInBounds_toArray, List.set_cons_zero, List.set_cons_succ])) | (refine Hp.soft_skip (i := 31) (oi := ⟨some 64, Op.fieldAddr 27 (Operand.tmp 1) 0, _, _, _, some (28, true)⟩) rfl (by kernel_rfl) (by kernel_rfl) (by kernel_rfl) (fun _ _ _ h => h) (fun _ q => q) (by rfl) ?_; (try simp only [Act.put, List.setIfInBounds_toArray, List.set_cons_zero, List.set_cons_succ])))
  (first | (refine Hp.soft_take (i := 32) (oi := ⟨some 65, Op.load 22 (Operand.tmp 64), _, _, _, some (28, true)⟩) _ rfl (by kernel_rfl) (by kernel_rfl) (by kernel_rfl) (fun _ _ _ h => h) (fun _ q => q) (by rfl) (fun W hW => by (have F := Hp.Sh.facts hW); (have hd := Hp.Sh.data hW); (try simp only [Hp.Facts, Hp.CellsAt, BatP.cellsAt_bt, BatP.cellsAt_bt, Nat.reduceAdd, List.cons_append, List.nil_append] at F); skip; go_simp; (try with_reducible rfl)) ?_; (try simp only [Act.put, List.setIfInBounds_toArray, List.set_cons_zero, List.set_cons_succ])) | (refine Hp.soft_skip (i := 32) (oi := ⟨some 65, Op.load 22 (Operand.tmp 64), _, _, _, some (28, true)⟩) rfl (by kernel_rfl) (by kernel_rfl) (by kernel_rfl) (fun _ _ _ h => h) (fun _ q => q) (by rfl) ?_; (try simp only [Act.put, List.setIfInBounds_toArray, List.set_cons_zero, List.set_cons_succ])))
  (first | (refine Hp.soft_take (i := 33) (oi := ⟨some 66, Op.fieldAddr 27 (Operand.tmp 1) 1, _, _, _, some (28, true)⟩) _ rfl (by kernel_rfl) (by kernel_rfl) (by kernel_rfl) (fun _ _ _ h => h) (fun _ q => q) (by rfl) (fun W hW => by go_simp; (try with_reducible rfl)) ?_; (try simp only [Act.put, List.setIfInBounds_toArray, List.set_cons_zero, List.set_cons_succ])) | (refine Hp.soft_skip (i := 33) (oi := ⟨some 66, Op.fieldAddr 27 (Operand.tmp 1) 1, _, _, _, some (28, true)⟩) rfl (by kernel_rfl) (by kernel_rfl) (by kernel_rfl) (fun _ _ _ h => h) (fun _ q => q) (by rfl) ?_; (try simp only [Act.put, List.setIfInBounds_toArray, List.set_cons_zero, List.set_cons_succ])))
  (first | (refine Hp.soft_take (i := 34) (oi := ⟨some 67, Op.load 23 (Operand.tmp 66), _, _, _, some (28, true)⟩) _ rfl (by kernel_rfl) (by kernel_rfl) (by kernel_rfl) (fun _ _ _ h => h) (fun _ q => q) (by rfl) (fun W hW => by (have F := Hp.Sh.facts hW); (have hd := Hp.Sh.data hW); (try simp only [Hp.Facts, Hp.CellsAt, BatP.cellsAt_bt, BatP.cellsAt_bt, Nat.reduceAdd, List.cons_append, List.nil_append] at F); skip; go_simp; (try with_reducible rfl)) ?_; (try simp only [Act.put, List.setIfInBounds_toArray, List.set_cons_zero, List.set_cons_succ])) | (refine Hp.soft_skip (i := 34) (oi := ⟨some 67, Op.load 23 (Operand.tmp 66), _, _, _, some (28, true)⟩) rfl (by kernel_rfl) (by kernel_rfl) (by kernel_rfl) (fun _ _ _ h => h) (fun _ q => q) (by rfl) ?_; (try simp only [Act.put, List.setIfInBounds_toArray, List.set_cons_zero, List.set_cons_succ])))
  (first | (refine Hp.soft_take (i := 35) (oi := ⟨some 68, Op.call { callee := Callee.builtin Builtin.len, args := #[Operand.tmp 67], argTypes := #[23] }, _, _, _, some (28, true)⟩) _ rfl (by kernel_rfl) (by kernel_rfl) (by kernel_rfl) (fun _ _ _ h => h) (fun _ q => q) (by rfl) (fun W hW => by go_simp; (try with_reducible rfl)) ?_; (try simp only [Act.put, List.setIfInBounds_toArray, List.set_cons_zero, List.set_cons_succ])) | (refine Hp.soft_skip (i := 35) (oi := ⟨some 68, Op.call { callee := Callee.builtin Builtin.len, args := #[Operand.tmp 67], argTypes := #[23] }, _, _, _, some (28, true)⟩) rfl (by kernel_rfl) (by kernel_rfl) (by kernel_rfl) (fun _ _ _ h => h) (fun _ q => q) (by rfl) ?_; (try simp only [Act.put, List.setIfInBounds_toArray, List.set_cons_zero, List.set_cons_succ])))
  (first | (refine Hp.soft_take (i := 36) (oi := ⟨some 69, Op.convert 3 22 (Operand.tmp 68), _, _, _, some (28, true)⟩) _ rfl (by kernel_rfl) (by kernel_rfl) (by kernel_rfl) (fun _ _ _ h => h) (fun _ q => q) (by rfl) (fun W hW => by go_simp; (try with_reducible rfl)) ?_; (try simp only [Act.put, List.setIfInBounds_toArray, List.set_cons_zero, List.set_cons_succ])) | (refine Hp.soft_skip (i := 36) (oi := ⟨some 69, Op.convert 3 22 (Operand.tmp 68), _, _, _, some (28, true)⟩) rfl (by kernel_rfl) (by kernel_rfl) (by kernel_rfl) (fun _ _ _ h => h) (fun _ q => q) (by rfl) ?_; (try simp only [Act.put, List.setIfInBounds_toArray, List.set_cons_zero, List.set_cons_succ])))
  (first | (refine Hp.soft_take (i := 37) (oi := ⟨some 70, Op.binOp BinOp.add 22 (Operand.tmp 65) (Operand.tmp 69) 22, _, _, _, some (28, true)⟩) _ rfl (by kernel_rfl) (by kernel_rfl) (by kernel_rfl) (fun _ _ _ h => h) (fun _ q => q) (by rfl) (fun W hW => by go_simp; (try with_reducible rfl)) ?_; (try simp only [Act.put, List.setIfInBounds_toArray, List.set_cons_zero, List.set_cons_succ])) | (refine Hp.soft_skip (i := 37) (oi := ⟨some 70, Op.binOp BinOp.add 22 (Operand.tmp 65) (Operand.tmp 69) 22, _, _, _, some (28, true)⟩) rfl (by kernel_rfl) (by kernel_rfl) (by kernel_rfl) (fun _ _ _ h => h) (fun _ q => q) (by rfl) ?_; (try simp only [Act.put, List.setIfInBounds_toArray, List.set_cons_zero, List.set_cons_succ])))
  (first | (refine Hp.soft_take (i := 38) (oi := ⟨some 71, Op.binOp BinOp.sub 22 (Operand.tmp 70) (Operand.const (Value.int IntKind.u64 1)) 22, _, _, _, some (28, true)⟩) _ rfl (by kernel_rfl) (by kernel_rfl) (by kernel_rfl) (fun _ _ _ h => h) (fun _ q => q) (by rfl) (fun W hW => by go_simp; (try with_reducible rfl)) ?_; (try simp only [Act.put, List.setIfInBounds_toArray, List.set_cons_zero, List.set_cons_succ])) | (refine Hp.soft_skip (i := 38) (oi := ⟨some 71, Op.binOp BinOp.sub 22 (Operand.tmp 70) (Operand.const (Value.int IntKind.u64 1)) 22, _, _, _, some (28, true)⟩) rfl (by kernel_rfl) (by kernel_rfl) (by kernel_rfl) (fun _ _ _ h => h) (fun _ q => q) (by rfl) ?_; (try simp only [Act.put, List.setIfInBounds_toArray, List.set_cons_zero, List.set_cons_succ])))
  (first | (refine Hp.soft_take (i := 39) (oi := ⟨some 72, Op.binOp BinOp.eql 22 (Operand.tmp 63) (Operand.tmp 71) 22, _, _, _, some (28, true)⟩) _ rfl (by kernel_rfl) (by kernel_rfl) (by kernel_rfl) (fun _ _ _ h => h) (fun _ q => q) (by rfl) (fun W hW => by go_simp; (try with_reducible rfl)) ?_; (try simp only [Act.put, List.setIfInBounds_toArray, List.set_cons_zero, List.set_cons_succ])) | (refine Hp.soft_skip (i := 39) (oi := ⟨some 72, Op.binOp BinOp.eql 22 (Operand.tmp 63) (Operand.tmp 71) 22, _, _, _, some (28, true)⟩) rfl (by kernel_rfl) (by kernel_rfl) (by kernel_rfl) (fun _ _ _ h => h) (fun _ q => q) (by rfl) ?_; (try simp only [Act.put, List.setIfInBounds_toArray, List.set_cons_zero, List.set_cons_succ])))
  (refine Hp.soft_take (i := 40) (oi := ⟨some 73, Op.pick (Operand.tmp 61) (Operand.tmp 72) (Operand.const (Value.bool false)), _, _, _, none⟩) _ rfl (by kernel_rfl) (by kernel_rfl) (by kernel_rfl) (fun _ _ _ h => h) (fun _ q => q) (by rfl) (fun W hW => by go_simp; (try with_reducible rfl)) ?_; (try simp only [Act.put, List.setIfInBounds_toArray, List.set_cons_zero, List.set_cons_succ]))
  (refine Hp.soft_take (i := 41) (oi := ⟨some 2, Op.assign (Operand.tmp 73), _, _, _, none⟩) _ rfl (by kernel_rfl) (by kernel_rfl) (by kernel_rfl) (fun _ _ _ h => h) (fun _ q => q) (by rfl) (fun W hW => by go_simp; (try with_reducible rfl)) ?_; (try simp only [Act.put, List.setIfInBounds_toArray, List.set_cons_zero, List.set_cons_succ]))
  refine Hp.soft_done (by kernel_rfl) (fun w1 sh => ?_) _; (try clear F); (try have F := Hp.Sh.facts sh); (try simp only [Hp.Facts, Hp.CellsAt, BatP.cellsAt_bt, BatP.cellsAt_bt, Nat.reduceAdd, List.cons_append, List.nil_append] at F)
  go_wp2_with (first
      | ((first | (with_reducible refine Hp.wpl_box sh ?_ ?_) | (with_reducible refine Hp.wpl_alloc Tryd.z_ev sh ?_ ?_) | (with_reducible refine Hp.wpl_alloc Tryd.z_bt sh ?_ ?_) | (with_reducible refine Hp.wpl_alloc Tryd.z_dg sh ?_ ?_) | (with_reducible refine Hp.atl_store ?_ ?_)); exact rfl; (try ((first | refine Hp.ws 0 sh rfl ?_ ?_ | refine Hp.ws 1 sh rfl ?_ ?_ | refine Hp.ws 2 sh rfl ?_ ?_ | refine Hp.ws 3 sh rfl ?_ ?_ | refine Hp.ws 4 sh rfl ?_ ?_ | refine Hp.ws 5 sh rfl ?_ ?_ | refine Hp.ws 6 sh rfl ?_ ?_); kernel_rfl)); clear sh; (try clear F); go_simp; (first | intro b w1 sh | intro w1 sh); have F := sh.facts; (try simp only [Hp.Facts, Hp.CellsAt, BatP.cellsAt_bt, BatP.cellsAt_bt, Nat.reduceAdd, List.cons_append, List.nil_append] at F))
      | fail)
  go_ret
  exact ⟨by first | rfl | simp, sh.below⟩

end Go.Proofs.YtkjmhnbijbpmkaaDoor

/-
  The walk of BatchOnly.
-/
namespace Go.Proofs.YtkjmhnbijbpmkaaDoor
open Go.RowKit
set_option linter.unusedVariables false
set_option linter.unusedSimpArgs false

set_option maxHeartbeats 4000000 in
set_option maxRecDepth 100000 in
theorem batchOnly_walk (q : List UInt8) (hq : q.length ≤ 140737488351232) (w : World) (hG : Hp.RdV w (some ⟨0, 0, none⟩) (DigP.wds DigP.consts)) : Calls Tryd.prog 4 #[.string (bstr q)] w fun e w' => e = .returned (.bool true) ∧ Below w.heap.size w w' := by
  have sh := (Hp.Sh.start (RdV_rob hG) : Hp.Sh w w [] (fun W => Hp.RdV W (some ⟨0, 0, none⟩) (DigP.wds DigP.consts)))
  have hsz := bstr_size q
  by_cases c1 : 20000 < q.length
  · have c1I : (20000 : Int) < (((bstr q).size : Nat) : Int) := by rw [hsz]; omega
    have c1N : 20000 < (bstr q).size := by rw [hsz]; exact c1
    clear hsz hG
    go_enter Tryd.func4, Tryd.ntmps4
    have F := sh.facts; (try simp only [Hp.Facts, Hp.CellsAt, BatP.cellsAt_bt, BatP.cellsAt_bt, Nat.reduceAdd, List.cons_append, List.nil_append] at F)
    go_wp2_with (first
        | ((first | (with_reducible refine Hp.wpl_box sh ?_ ?_) | (with_reducible refine Hp.wpl_alloc Tryd.z_ev sh ?_ ?_) | (with_reducible refine Hp.wpl_alloc Tryd.z_bt sh ?_ ?_) | (with_reducible refine Hp.wpl_alloc Tryd.z_dg sh ?_ ?_) | (with_reducible refine Hp.atl_store ?_ ?_)); exact rfl; (try ((first | refine Hp.ws 0 sh rfl ?_ ?_ | refine Hp.ws 1 sh rfl ?_ ?_ | refine Hp.ws 2 sh rfl ?_ ?_ | refine Hp.ws 3 sh rfl ?_ ?_ | refine Hp.ws 4 sh rfl ?_ ?_ | refine Hp.ws 5 sh rfl ?_ ?_ | refine Hp.ws 6 sh rfl ?_ ?_); kernel_rfl)); clear sh; (try clear F); go_simp; (first | intro b w1 sh | intro w1 sh); have F := sh.facts; (try simp only [Hp.Facts, Hp.CellsAt, BatP.cellsAt_bt, BatP.cellsAt_bt, Nat.reduceAdd, List.cons_append, List.nil_append] at F))
        | fail)
    go_ret
    exact ⟨rfl, sh.below⟩
  have c1I : ¬ (20000 : Int) < (((bstr q).size : Nat) : Int) := by rw [hsz]; omega
  have c1N : ¬ 20000 < (bstr q).size := by rw [hsz]; exact c1
  have K0 := Lib.hid (fun W => bbatched W)
  have K1 := Lib.hid (fun W => bget q (by omega) W)
  rcases hX : BatP.getB q with ⟨⟨⟨f, ls, pv⟩, n⟩, er⟩
  by_cases he : er = 0
  · subst he
    obtain ⟨hb, hok, hO, hnq, hnl9⟩ := BatP.get_back hX
    have hEv := BatP.evs_all hok hb
    dsimp only at hEv
    have hpv : pv.length = 32 := hok.prev
    have hfi : 0 ≤ f ∧ f ≤ 18446744073709551615 := hok.first
    have hls : ls.length ≤ 256 := (BatP.isB_iff.1 hb).2.1
    have hrun : EvP.runB ls = true := (BatP.isB_iff.1 hb).2.2.1
    rw [hX] at K1
    unfold BatP.GetP at K1
    dsimp only at K1
    obtain ⟨nl, hnl⟩ : ∃ k, k = ls.length := ⟨_, rfl⟩
    rw [← hnl] at K1
    have K2 := Lib.hid (fun s1 c1 hc W r => bput f s1 nl c1 ls pv hpv hfi hnl hc (by omega) hEv W r)
    have K3 := Lib.hid (fun s1 c1 hc W r g => bsum f s1 nl c1 ls pv hpv hfi hnl hc (by omega) hEv W r g)
    have K5 := Lib.hid (fun s1 c1 hc W r => bis f s1 nl c1 ls pv hnl hc (by omega) hEv W r)
    have K6 := Lib.hid (fun s1 c1 hc W r => erun s1 ls nl c1 hnl hc (by omega) hEv W r)
    rw [BatP.putB_yes hb] at K2
    rw [BatP.sumB_yes hb] at K3
    rw [hb] at K5
    rw [hrun] at K6
    dsimp only at K2 K3
    rw [hO] at K2 K3
    have KO := Lib.hid (fun W r => dof' (q.take n) (by rw [List.length_take]; omega) W r)
    have n7 : (bstr q).extract 0 n = bstr (q.take n) := by rw [bstr_extract, bstr_data, List.drop_zero]
    have m1 : (n : Int) ≤ ((bstr q).size : Int) := by rw [hsz]; omega
    have m1N : n ≤ (bstr q).size := by rw [hsz]; exact hnq
    have hdl := DigP.of_length (q.take n)
    generalize DigP.of (q.take n) = dg at K3 KO hdl
    generalize q.take n = O at K2 KO n7
    have HD := bdeq_same dg hdl
    have HDG := Lib.hid (show dg.length = BatP.zeros.length from hdl)
    have HDL := Lib.hid hdl
    have HQ := Lib.hid (show pv.length = BatP.zeros.length from hpv)
    have HPL := Lib.hid hpv
    clear hX hb hok hO hnl9 hEv hpv hfi hls hrun hnl hdl hsz hG hnq
    go_enter Tryd.func4, Tryd.ntmps4
    have F := sh.facts; (try simp only [Hp.Facts, Hp.CellsAt, BatP.cellsAt_bt, BatP.cellsAt_bt, Nat.reduceAdd, List.cons_append, List.nil_append] at F)
    go_wp2_with (first
        | ((first | (with_reducible refine Hp.wpl_box sh ?_ ?_) | (with_reducible refine Hp.wpl_alloc Tryd.z_ev sh ?_ ?_) | (with_reducible refine Hp.wpl_alloc Tryd.z_bt sh ?_ ?_) | (with_reducible refine Hp.wpl_alloc Tryd.z_dg sh ?_ ?_) | (with_reducible refine Hp.atl_store ?_ ?_)); exact rfl; (try ((first | refine Hp.ws 0 sh rfl ?_ ?_ | refine Hp.ws 1 sh rfl ?_ ?_ | refine Hp.ws 2 sh rfl ?_ ?_ | refine Hp.ws 3 sh rfl ?_ ?_ | refine Hp.ws 4 sh rfl ?_ ?_ | refine Hp.ws 5 sh rfl ?_ ?_ | refine Hp.ws 6 sh rfl ?_ ?_); kernel_rfl)); clear sh; (try clear F); go_simp; (first | intro b w1 sh | intro w1 sh); have F := sh.facts; (try simp only [Hp.Facts, Hp.CellsAt, BatP.cellsAt_bt, BatP.cellsAt_bt, Nat.reduceAdd, List.cons_append, List.nil_append] at F))
        | fail)
    go_fit (K1.out _)
    rintro e w1 ⟨s1, k1, rfl, hn9, hr9, hb9, hk1, -⟩
    replace sh := Hp.gain sh hb9 hn9 hr9
    clear hn9 hr9 hb9
    (try clear F); (have F := sh.facts; (try simp only [BatP.cellsAt_bt, Hp.Facts, Hp.CellsAt, BatP.cellsAt_bt, BatP.cellsAt_bt, Nat.reduceAdd, List.cons_append, List.nil_append] at F))
    have tok_b3 : True := trivial
    go_wp2_with (first
        | ((with_reducible refine Hp.at_st 27 ?_ ?_); (rotate_left; exact rfl); (refine Hp.bst_all 0 sh rfl rfl rfl HQ.out (BatP.bt_size' rfl) ?_); clear sh; (try clear F); go_simp; intro w1 sh; (have F := sh.facts; (try simp only [BatP.cellsAt_bt, Hp.Facts, Hp.CellsAt, BatP.cellsAt_bt, BatP.cellsAt_bt, Nat.reduceAdd, List.cons_append, List.nil_append] at F)))
        | ((with_reducible refine Hp.at_ld 27 ?_); (first | refine Hp.bld_g 0 sh rfl rfl rfl (by kernel_rfl) (BatP.bt_size HPL.out) ?_ | refine Hp.bld_g 1 sh rfl rfl rfl (by kernel_rfl) (BatP.bt_size HPL.out) ?_ | refine Hp.bld_g 2 sh rfl rfl rfl (by kernel_rfl) (BatP.bt_size HPL.out) ?_); go_simp)
        | ((first | (with_reducible refine Hp.wpl_box sh ?_ ?_) | (with_reducible refine Hp.wpl_alloc Tryd.z_ev sh ?_ ?_) | (with_reducible refine Hp.wpl_alloc Tryd.z_bt sh ?_ ?_) | (with_reducible refine Hp.wpl_alloc Tryd.z_dg sh ?_ ?_) | (with_reducible refine Hp.atl_store ?_ ?_)); exact rfl; (try ((first | refine Hp.ws 0 sh rfl ?_ ?_ | refine Hp.ws 1 sh rfl ?_ ?_ | refine Hp.ws 2 sh rfl ?_ ?_ | refine Hp.ws 3 sh rfl ?_ ?_ | refine Hp.ws 4 sh rfl ?_ ?_ | refine Hp.ws 5 sh rfl ?_ ?_ | refine Hp.ws 6 sh rfl ?_ ?_); kernel_rfl)); clear sh; (try clear F); go_simp; (first | (have tok := tok_b3; clear tok tok_b3; intro b3 w1 sh) | intro b w1 sh | intro w1 sh); have F := sh.facts; (try simp only [Hp.Facts, Hp.CellsAt, BatP.cellsAt_bt, BatP.cellsAt_bt, Nat.reduceAdd, List.cons_append, List.nil_append] at F))
        | fail)
    go_fit (K2.out s1 k1 hk1 _ sh.data.1)
    rintro e w1 ⟨rfl, hb⟩
    replace sh := sh.call hb; clear hb; (try clear F); have F := sh.facts; (try simp only [Hp.Facts, Hp.CellsAt, BatP.cellsAt_bt, BatP.cellsAt_bt, Nat.reduceAdd, List.cons_append, List.nil_append] at F)
    go_wp2_with (first
        | ((with_reducible refine Hp.at_ld 27 ?_); (first | refine Hp.bld_g 0 sh rfl rfl rfl (by kernel_rfl) (BatP.bt_size HPL.out) ?_ | refine Hp.bld_g 1 sh rfl rfl rfl (by kernel_rfl) (BatP.bt_size HPL.out) ?_ | refine Hp.bld_g 2 sh rfl rfl rfl (by kernel_rfl) (BatP.bt_size HPL.out) ?_); go_simp)
        | ((first | (with_reducible refine Hp.wpl_box sh ?_ ?_) | (with_reducible refine Hp.wpl_alloc Tryd.z_ev sh ?_ ?_) | (with_reducible refine Hp.wpl_alloc Tryd.z_bt sh ?_ ?_) | (with_reducible refine Hp.wpl_alloc Tryd.z_dg sh ?_ ?_) | (with_reducible refine Hp.atl_store ?_ ?_)); exact rfl; (try ((first | refine Hp.ws 0 sh rfl ?_ ?_ | refine Hp.ws 1 sh rfl ?_ ?_ | refine Hp.ws 2 sh rfl ?_ ?_ | refine Hp.ws 3 sh rfl ?_ ?_ | refine Hp.ws 4 sh rfl ?_ ?_ | refine Hp.ws 5 sh rfl ?_ ?_ | refine Hp.ws 6 sh rfl ?_ ?_); kernel_rfl)); clear sh; (try clear F); go_simp; (first | intro b w1 sh | intro w1 sh); have F := sh.facts; (try simp only [Hp.Facts, Hp.CellsAt, BatP.cellsAt_bt, BatP.cellsAt_bt, Nat.reduceAdd, List.cons_append, List.nil_append] at F))
        | fail)
    go_fit (K3.out s1 k1 hk1 _ sh.data.1 sh.data.2)
    rintro e w1 ⟨rfl, hb⟩
    replace sh := sh.call hb; clear hb; (try clear F); have F := sh.facts; (try simp only [Hp.Facts, Hp.CellsAt, BatP.cellsAt_bt, BatP.cellsAt_bt, Nat.reduceAdd, List.cons_append, List.nil_append] at F)
    have tok_b8 : True := trivial
    go_wp2_with (first
        | ((with_reducible refine Hp.at_st 25 ?_ ?_); (rotate_left; exact rfl); (refine Hp.bst_arr 0 sh rfl rfl rfl HDG.out (by kernel_rfl) ?_); clear sh; (try clear F); go_simp; intro w1 sh; (have F := sh.facts; (try simp only [BatP.cellsAt_bt, Hp.Facts, Hp.CellsAt, BatP.cellsAt_bt, BatP.cellsAt_bt, Nat.reduceAdd, List.cons_append, List.nil_append] at F)))
        | ((first | (with_reducible refine Hp.wpl_box sh ?_ ?_) | (with_reducible refine Hp.wpl_alloc Tryd.z_ev sh ?_ ?_) | (with_reducible refine Hp.wpl_alloc Tryd.z_bt sh ?_ ?_) | (with_reducible refine Hp.wpl_alloc Tryd.z_dg sh ?_ ?_) | (with_reducible refine Hp.atl_store ?_ ?_)); exact rfl; (try ((first | refine Hp.ws 0 sh rfl ?_ ?_ | refine Hp.ws 1 sh rfl ?_ ?_ | refine Hp.ws 2 sh rfl ?_ ?_ | refine Hp.ws 3 sh rfl ?_ ?_ | refine Hp.ws 4 sh rfl ?_ ?_ | refine Hp.ws 5 sh rfl ?_ ?_ | refine Hp.ws 6 sh rfl ?_ ?_); kernel_rfl)); clear sh; (try clear F); go_simp; (first | (have tok := tok_b8; clear tok tok_b8; intro b8 w1 sh) | intro b w1 sh | intro w1 sh); have F := sh.facts; (try simp only [Hp.Facts, Hp.CellsAt, BatP.cellsAt_bt, BatP.cellsAt_bt, Nat.reduceAdd, List.cons_append, List.nil_append] at F))
        | fail)
    refine Hp.region_soft (by kernel_rfl) sh (fun _ q => q) ?_; clear sh; (try clear F)
    (try simp only [])
    (refine Hp.soft_call (i := 0) (oi := ⟨some 50, Op.call { callee := Callee.value (Operand.func 10), args := #[], argTypes := #[] }, _, _, _, none⟩) _ _ _ rfl (by kernel_rfl) (by kernel_rfl) (by kernel_rfl) (fun _ _ _ h => h) (fun _ q => q) (by rfl) (fun W hW => by go_simp) (fun W hW => (K0.out W)) ?_; (try simp only [Act.put, List.setIfInBounds_toArray, List.set_cons_zero, List.set_cons_succ]))
    (refine Hp.soft_take (i := 1) (oi := ⟨some 51, Op.move (Operand.tmp 50), _, _, _, none⟩) _ rfl (by kernel_rfl) (by kernel_rfl) (by kernel_rfl) (fun _ _ _ h => h) (fun _ q => q) (by rfl) (fun W hW => by go_simp; (try with_reducible rfl)) ?_; (try simp only [Act.put, List.setIfInBounds_toArray, List.set_cons_zero, List.set_cons_succ]))
    (first | (refine Hp.soft_take (i := 2) (oi := ⟨some 52, Op.move (Operand.tmp 7), _, _, _, some (1, true)⟩) _ rfl (by kernel_rfl) (by kernel_rfl) (by kernel_rfl) (fun _ _ _ h => h) (fun _ q => q) (by rfl) (fun W hW => by go_simp; (try with_reducible rfl)) ?_; (try simp only [Act.put, List.setIfInBounds_toArray, List.set_cons_zero, List.set_cons_succ])) | (refine Hp.soft_skip (i := 2) (oi := ⟨some 52, Op.move (Operand.tmp 7), _, _, _, some (1, true)⟩) rfl (by kernel_rfl) (by kernel_rfl) (by kernel_rfl) (fun _ _ _ h => h) (fun _ q => q) (by rfl) ?_; (try simp only [Act.put, List.setIfInBounds_toArray, List.set_cons_zero, List.set_cons_succ])))
    (first | (refine Hp.soft_take (i := 3) (oi := ⟨some 53, Op.binOp BinOp.eql 29 (Operand.tmp 52) (Operand.const (Value.int IntKind.i64 0)) 29, _, _, _, some (1, true)⟩) _ rfl (by kernel_rfl) (by kernel_rfl) (by kernel_rfl) (fun _ _ _ h => h) (fun _ q => q) (by rfl) (fun W hW => by go_simp; (try with_reducible rfl)) ?_; (try simp only [Act.put, List.setIfInBounds_toArray, List.set_cons_zero, List.set_cons_succ])) | (refine Hp.soft_skip (i := 3) (oi := ⟨some 53, Op.binOp BinOp.eql 29 (Operand.tmp 52) (Operand.const (Value.int IntKind.i64 0)) 29, _, _, _, some (1, true)⟩) rfl (by kernel_rfl) (by kernel_rfl) (by kernel_rfl) (fun _ _ _ h => h) (fun _ q => q) (by rfl) ?_; (try simp only [Act.put, List.setIfInBounds_toArray, List.set_cons_zero, List.set_cons_succ])))
    (refine Hp.soft_take (i := 4) (oi := ⟨some 54, Op.pick (Operand.tmp 51) (Operand.tmp 53) (Operand.const (Value.bool false)), _, _, _, none⟩) _ rfl (by kernel_rfl) (by kernel_rfl) (by kernel_rfl) (fun _ _ _ h => h) (fun _ q => q) (by rfl) (fun W hW => by go_simp; (try with_reducible rfl)) ?_; (try simp only [Act.put, List.setIfInBounds_toArray, List.set_cons_zero, List.set_cons_succ]))
    (refine Hp.soft_take (i := 5) (oi := ⟨some 55, Op.move (Operand.tmp 54), _, _, _, none⟩) _ rfl (by kernel_rfl) (by kernel_rfl) (by kernel_rfl) (fun _ _ _ h => h) (fun _ q => q) (by rfl) (fun W hW => by go_simp; (try with_reducible rfl)) ?_; (try simp only [Act.put, List.setIfInBounds_toArray, List.set_cons_zero, List.set_cons_succ]))
    (first | (refine Hp.soft_take (i := 6) (oi := ⟨some 56, Op.move (Operand.tmp 6), _, _, _, some (5, true)⟩) _ rfl (by kernel_rfl) (by kernel_rfl) (by kernel_rfl) (fun _ _ _ h => h) (fun _ q => q) (by rfl) (fun W hW => by go_simp; (try with_reducible rfl)) ?_; (try simp only [Act.put, List.setIfInBounds_toArray, List.set_cons_zero, List.set_cons_succ])) | (refine Hp.soft_skip (i := 6) (oi := ⟨some 56, Op.move (Operand.tmp 6), _, _, _, some (5, true)⟩) rfl (by kernel_rfl) (by kernel_rfl) (by kernel_rfl) (fun _ _ _ h => h) (fun _ q => q) (by rfl) ?_; (try simp only [Act.put, List.setIfInBounds_toArray, List.set_cons_zero, List.set_cons_succ])))
    (first | (refine Hp.soft_take (i := 7) (oi := ⟨some 57, Op.move (Operand.tmp 0), _, _, _, some (5, true)⟩) _ rfl (by kernel_rfl) (by kernel_rfl) (by kernel_rfl) (fun _ _ _ h => h) (fun _ q => q) (by rfl) (fun W hW => by go_simp; (try with_reducible rfl)) ?_; (try simp only [Act.put, List.setIfInBounds_toArray, List.set_cons_zero, List.set_cons_succ])) | (refine Hp.soft_skip (i := 7) (oi := ⟨some 57, Op.move (Operand.tmp 0), _, _, _, some (5, true)⟩) rfl (by kernel_rfl) (by kernel_rfl) (by kernel_rfl) (fun _ _ _ h => h) (fun _ q => q) (by rfl) ?_; (try simp only [Act.put, List.setIfInBounds_toArray, List.set_cons_zero, List.set_cons_succ])))
    (first | (refine Hp.soft_take (i := 8) (oi := ⟨some 58, Op.move (Operand.tmp 4), _, _, _, some (5, true)⟩) _ rfl (by kernel_rfl) (by kernel_rfl) (by kernel_rfl) (fun _ _ _ h => h) (fun _ q => q) (by rfl) (fun W hW => by go_simp; (try with_reducible rfl)) ?_; (try simp only [Act.put, List.setIfInBounds_toArray, List.set_cons_zero, List.set_cons_succ])) | (refine Hp.soft_skip (i := 8) (oi := ⟨some 58, Op.move (Operand.tmp 4), _, _, _, some (5, true)⟩) rfl (by kernel_rfl) (by kernel_rfl) (by kernel_rfl) (fun _ _ _ h => h) (fun _ q => q) (by rfl) ?_; (try simp only [Act.put, List.setIfInBounds_toArray, List.set_cons_zero, List.set_cons_succ])))
    (first | (refine Hp.soft_take (i := 9) (oi := ⟨some 59, Op.slice 9 (Operand.tmp 57) none (some (Operand.tmp 58)) none, _, _, _, some (5, true)⟩) _ rfl (by kernel_rfl) (by kernel_rfl) (by kernel_rfl) (fun _ _ _ h => h) (fun _ q => q) (by rfl) (fun W hW => by go_simp; (try with_reducible rfl)) ?_; (try simp only [Act.put, List.setIfInBounds_toArray, List.set_cons_zero, List.set_cons_succ])) | (refine Hp.soft_skip (i := 9) (oi := ⟨some 59, Op.slice 9 (Operand.tmp 57) none (some (Operand.tmp 58)) none, _, _, _, some (5, true)⟩) rfl (by kernel_rfl) (by kernel_rfl) (by kernel_rfl) (fun _ _ _ h => h) (fun _ q => q) (by rfl) ?_; (try simp only [Act.put, List.setIfInBounds_toArray, List.set_cons_zero, List.set_cons_succ])))
    (first | (refine Hp.soft_take (i := 10) (oi := ⟨some 60, Op.binOp BinOp.eql 9 (Operand.tmp 56) (Operand.tmp 59) 9, _, _, _, some (5, true)⟩) _ rfl (by kernel_rfl) (by kernel_rfl) (by kernel_rfl) (fun _ _ _ h => h) (fun _ q => q) (by rfl) (fun W hW => by go_simp; (try with_reducible rfl)) ?_; (try simp only [Act.put, List.setIfInBounds_toArray, List.set_cons_zero, List.set_cons_succ])) | (refine Hp.soft_skip (i := 10) (oi := ⟨some 60, Op.binOp BinOp.eql 9 (Operand.tmp 56) (Operand.tmp 59) 9, _, _, _, some (5, true)⟩) rfl (by kernel_rfl) (by kernel_rfl) (by kernel_rfl) (fun _ _ _ h => h) (fun _ q => q) (by rfl) ?_; (try simp only [Act.put, List.setIfInBounds_toArray, List.set_cons_zero, List.set_cons_succ])))
    (refine Hp.soft_take (i := 11) (oi := ⟨some 61, Op.pick (Operand.tmp 55) (Operand.tmp 60) (Operand.const (Value.bool false)), _, _, _, none⟩) _ rfl (by kernel_rfl) (by kernel_rfl) (by kernel_rfl) (fun _ _ _ h => h) (fun _ q => q) (by rfl) (fun W hW => by go_simp; (try with_reducible rfl)) ?_; (try simp only [Act.put, List.setIfInBounds_toArray, List.set_cons_zero, List.set_cons_succ]))
    (refine Hp.soft_take (i := 12) (oi := ⟨some 62, Op.move (Operand.tmp 61), _, _, _, none⟩) _ rfl (by kernel_rfl) (by kernel_rfl) (by kernel_rfl) (fun _ _ _ h => h) (fun _ q => q) (by rfl) (fun W hW => by go_simp; (try with_reducible rfl)) ?_; (try simp only [Act.put, List.setIfInBounds_toArray, List.set_cons_zero, List.set_cons_succ]))
    (first | (refine Hp.soft_take (i := 13) (oi := ⟨some 63, Op.move (Operand.tmp 9), _, _, _, some (12, true)⟩) _ rfl (by kernel_rfl) (by kernel_rfl) (by kernel_rfl) (fun _ _ _ h => h) (fun _ q => q) (by rfl) (fun W hW => by go_simp; (try with_reducible rfl)) ?_; (try simp only [Act.put, List.setIfInBounds_toArray, List.set_cons_zero, List.set_cons_succ])) | (refine Hp.soft_skip (i := 13) (oi := ⟨some 63, Op.move (Operand.tmp 9), _, _, _, some (12, true)⟩) rfl (by kernel_rfl) (by kernel_rfl) (by kernel_rfl) (fun _ _ _ h => h) (fun _ q => q) (by rfl) ?_; (try simp only [Act.put, List.setIfInBounds_toArray, List.set_cons_zero, List.set_cons_succ])))
    (first | (refine Hp.soft_take (i := 14) (oi := ⟨some 64, Op.binOp BinOp.eql 29 (Operand.tmp 63) (Operand.const (Value.int IntKind.i64 0)) 29, _, _, _, some (12, true)⟩) _ rfl (by kernel_rfl) (by kernel_rfl) (by kernel_rfl) (fun _ _ _ h => h) (fun _ q => q) (by rfl) (fun W hW => by go_simp; (try with_reducible rfl)) ?_; (try simp only [Act.put, List.setIfInBounds_toArray, List.set_cons_zero, List.set_cons_succ])) | (refine Hp.soft_skip (i := 14) (oi := ⟨some 64, Op.binOp BinOp.eql 29 (Operand.tmp 63) (Operand.const (Value.int IntKind.i64 0)) 29, _, _, _, some (12, true)⟩) rfl (by kernel_rfl) (by kernel_rfl) (by kernel_rfl) (fun _ _ _ h => h) (fun _ q => q) (by rfl) ?_; (try simp only [Act.put, List.setIfInBounds_toArray, List.set_cons_zero, List.set_cons_succ])))
    (refine Hp.soft_take (i := 15) (oi := ⟨some 65, Op.pick (Operand.tmp 62) (Operand.tmp 64) (Operand.const (Value.bool false)), _, _, _, none⟩) _ rfl (by kernel_rfl) (by kernel_rfl) (by kernel_rfl) (fun _ _ _ h => h) (fun _ q => q) (by rfl) (fun W hW => by go_simp; (try with_reducible rfl)) ?_; (try simp only [Act.put, List.setIfInBounds_toArray, List.set_cons_zero, List.set_cons_succ]))
    (refine Hp.soft_take (i := 16) (oi := ⟨some 66, Op.move (Operand.tmp 65), _, _, _, none⟩) _ rfl (by kernel_rfl) (by kernel_rfl) (by kernel_rfl) (fun _ _ _ h => h) (fun _ q => q) (by rfl) (fun W hW => by go_simp; (try with_reducible rfl)) ?_; (try simp only [Act.put, List.setIfInBounds_toArray, List.set_cons_zero, List.set_cons_succ]))
    (first | (refine Hp.soft_take (i := 17) (oi := ⟨some 67, Op.load 25 (Operand.tmp 8), _, _, _, some (16, true)⟩) _ rfl (by kernel_rfl) (by kernel_rfl) (by kernel_rfl) (fun _ _ _ h => h) (fun _ q => q) (by rfl) (fun W hW => (Hp.bexec_load 0 hW rfl rfl (by kernel_rfl) (BatP.dg_size HDL.out))) ?_; (try simp only [Act.put, List.setIfInBounds_toArray, List.set_cons_zero, List.set_cons_succ])) | (refine Hp.soft_skip (i := 17) (oi := ⟨some 67, Op.load 25 (Operand.tmp 8), _, _, _, some (16, true)⟩) rfl (by kernel_rfl) (by kernel_rfl) (by kernel_rfl) (fun _ _ _ h => h) (fun _ q => q) (by rfl) ?_; (try simp only [Act.put, List.setIfInBounds_toArray, List.set_cons_zero, List.set_cons_succ])))
    (first | (refine Hp.soft_take (i := 18) (oi := ⟨some 68, Op.move (Operand.tmp 0), _, _, _, some (16, true)⟩) _ rfl (by kernel_rfl) (by kernel_rfl) (by kernel_rfl) (fun _ _ _ h => h) (fun _ q => q) (by rfl) (fun W hW => by go_simp; (try with_reducible rfl)) ?_; (try simp only [Act.put, List.setIfInBounds_toArray, List.set_cons_zero, List.set_cons_succ])) | (refine Hp.soft_skip (i := 18) (oi := ⟨some 68, Op.move (Operand.tmp 0), _, _, _, some (16, true)⟩) rfl (by kernel_rfl) (by kernel_rfl) (by kernel_rfl) (fun _ _ _ h => h) (fun _ q => q) (by rfl) ?_; (try simp only [Act.put, List.setIfInBounds_toArray, List.set_cons_zero, List.set_cons_succ])))
    (first | (refine Hp.soft_take (i := 19) (oi := ⟨some 69, Op.move (Operand.tmp 4), _, _, _, some (16, true)⟩) _ rfl (by kernel_rfl) (by kernel_rfl) (by kernel_rfl) (fun _ _ _ h => h) (fun _ q => q) (by rfl) (fun W hW => by go_simp; (try with_reducible rfl)) ?_; (try simp only [Act.put, List.setIfInBounds_toArray, List.set_cons_zero, List.set_cons_succ])) | (refine Hp.soft_skip (i := 19) (oi := ⟨some 69, Op.move (Operand.tmp 4), _, _, _, some (16, true)⟩) rfl (by kernel_rfl) (by kernel_rfl) (by kernel_rfl) (fun _ _ _ h => h) (fun _ q => q) (by rfl) ?_; (try simp only [Act.put, List.setIfInBounds_toArray, List.set_cons_zero, List.set_cons_succ])))
    (first | (refine Hp.soft_take (i := 20) (oi := ⟨some 70, Op.slice 9 (Operand.tmp 68) none (some (Operand.tmp 69)) none, _, _, _, some (16, true)⟩) _ rfl (by kernel_rfl) (by kernel_rfl) (by kernel_rfl) (fun _ _ _ h => h) (fun _ q => q) (by rfl) (fun W hW => by go_simp; (try with_reducible rfl)) ?_; (try simp only [Act.put, List.setIfInBounds_toArray, List.set_cons_zero, List.set_cons_succ])) | (refine Hp.soft_skip (i := 20) (oi := ⟨some 70, Op.slice 9 (Operand.tmp 68) none (some (Operand.tmp 69)) none, _, _, _, some (16, true)⟩) rfl (by kernel_rfl) (by kernel_rfl) (by kernel_rfl) (fun _ _ _ h => h) (fun _ q => q) (by rfl) ?_; (try simp only [Act.put, List.setIfInBounds_toArray, List.set_cons_zero, List.set_cons_succ])))
    (first | (refine Hp.soft_call (i := 21) (oi := ⟨some 71, Op.call { callee := Callee.value (Operand.func 15), args := #[Operand.tmp 70], argTypes := #[9] }, _, _, _, some (16, true)⟩) _ _ _ rfl (by kernel_rfl) (by kernel_rfl) (by kernel_rfl) (fun _ _ _ h => h) (fun _ q => q) (by rfl) (fun W hW => by go_simp) (fun W hW => (KO.out W hW.data.2)) ?_; (try simp only [Act.put, List.setIfInBounds_toArray, List.set_cons_zero, List.set_cons_succ])) | (refine Hp.soft_skip (i := 21) (oi := ⟨some 71, Op.call { callee := Callee.value (Operand.func 15), args := #[Operand.tmp 70], argTypes := #[9] }, _, _, _, some (16, true)⟩) rfl (by kernel_rfl) (by kernel_rfl) (by kernel_rfl) (fun _ _ _ h => h) (fun _ q => q) (by rfl) ?_; (try simp only [Act.put, List.setIfInBounds_toArray, List.set_cons_zero, List.set_cons_succ])))
    (first | (refine Hp.soft_take (i := 22) (oi := ⟨some 72, Op.binOp BinOp.eql 25 (Operand.tmp 67) (Operand.tmp 71) 25, _, _, _, some (16, true)⟩) _ rfl (by kernel_rfl) (by kernel_rfl) (by kernel_rfl) (fun _ _ _ h => h) (fun _ q => q) (by rfl) (fun W hW => by go_simp; (try with_reducible rfl)) ?_; (try simp only [Act.put, List.setIfInBounds_toArray, List.set_cons_zero, List.set_cons_succ])) | (refine Hp.soft_skip (i := 22) (oi := ⟨some 72, Op.binOp BinOp.eql 25 (Operand.tmp 67) (Operand.tmp 71) 25, _, _, _, some (16, true)⟩) rfl (by kernel_rfl) (by kernel_rfl) (by kernel_rfl) (fun _ _ _ h => h) (fun _ q => q) (by rfl) ?_; (try simp only [Act.put, List.setIfInBounds_toArray, List.set_cons_zero, List.set_cons_succ])))
    (refine Hp.soft_take (i := 23) (oi := ⟨some 73, Op.pick (Operand.tmp 66) (Operand.tmp 72) (Operand.const (Value.bool false)), _, _, _, none⟩) _ rfl (by kernel_rfl) (by kernel_rfl) (by kernel_rfl) (fun _ _ _ h => h) (fun _ q => q) (by rfl) (fun W hW => by go_simp; (try with_reducible rfl)) ?_; (try simp only [Act.put, List.setIfInBounds_toArray, List.set_cons_zero, List.set_cons_succ]))
    (refine Hp.soft_take (i := 24) (oi := ⟨some 74, Op.move (Operand.tmp 73), _, _, _, none⟩) _ rfl (by kernel_rfl) (by kernel_rfl) (by kernel_rfl) (fun _ _ _ h => h) (fun _ q => q) (by rfl) (fun W hW => by go_simp; (try with_reducible rfl)) ?_; (try simp only [Act.put, List.setIfInBounds_toArray, List.set_cons_zero, List.set_cons_succ]))
    (first | (refine Hp.soft_take (i := 25) (oi := ⟨some 75, Op.load 27 (Operand.tmp 3), _, _, _, some (24, true)⟩) _ rfl (by kernel_rfl) (by kernel_rfl) (by kernel_rfl) (fun _ _ _ h => h) (fun _ q => q) (by rfl) (fun W hW => (Hp.bexec_load 1 hW rfl rfl (by kernel_rfl) (BatP.bt_size HPL.out))) ?_; (try simp only [Act.put, List.setIfInBounds_toArray, List.set_cons_zero, List.set_cons_succ])) | (refine Hp.soft_skip (i := 25) (oi := ⟨some 75, Op.load 27 (Operand.tmp 3), _, _, _, some (24, true)⟩) rfl (by kernel_rfl) (by kernel_rfl) (by kernel_rfl) (fun _ _ _ h => h) (fun _ q => q) (by rfl) ?_; (try simp only [Act.put, List.setIfInBounds_toArray, List.set_cons_zero, List.set_cons_succ])))
    (first | (refine Hp.soft_call (i := 26) (oi := ⟨some 76, Op.call { callee := Callee.value (Operand.func 11), args := #[Operand.tmp 75], argTypes := #[27] }, _, _, _, some (24, true)⟩) _ _ _ rfl (by kernel_rfl) (by kernel_rfl) (by kernel_rfl) (fun _ _ _ h => h) (fun _ q => q) (by rfl) (fun W hW => by go_simp) (fun W hW => (K5.out s1 k1 hk1 W hW.data.1)) ?_; (try simp only [Act.put, List.setIfInBounds_toArray, List.set_cons_zero, List.set_cons_succ])) | (refine Hp.soft_skip (i := 26) (oi := ⟨some 76, Op.call { callee := Callee.value (Operand.func 11), args := #[Operand.tmp 75], argTypes := #[27] }, _, _, _, some (24, true)⟩) rfl (by kernel_rfl) (by kernel_rfl) (by kernel_rfl) (fun _ _ _ h => h) (fun _ q => q) (by rfl) ?_; (try simp only [Act.put, List.setIfInBounds_toArray, List.set_cons_zero, List.set_cons_succ])))
    (refine Hp.soft_take (i := 27) (oi := ⟨some 77, Op.pick (Operand.tmp 74) (Operand.tmp 76) (Operand.const (Value.bool false)), _, _, _, none⟩) _ rfl (by kernel_rfl) (by kernel_rfl) (by kernel_rfl) (fun _ _ _ h => h) (fun _ q => q) (by rfl) (fun W hW => by go_simp; (try with_reducible rfl)) ?_; (try simp only [Act.put, List.setIfInBounds_toArray, List.set_cons_zero, List.set_cons_succ]))
    (refine Hp.soft_take (i := 28) (oi := ⟨some 78, Op.move (Operand.tmp 77), _, _, _, none⟩) _ rfl (by kernel_rfl) (by kernel_rfl) (by kernel_rfl) (fun _ _ _ h => h) (fun _ q => q) (by rfl) (fun W hW => by go_simp; (try with_reducible rfl)) ?_; (try simp only [Act.put, List.setIfInBounds_toArray, List.set_cons_zero, List.set_cons_succ]))
    (first | (refine Hp.soft_take (i := 29) (oi := ⟨some 79, Op.fieldAddr 27 (Operand.tmp 3) 1, _, _, _, some (28, true)⟩) _ rfl (by kernel_rfl) (by kernel_rfl) (by kernel_rfl) (fun _ _ _ h => h) (fun _ q => q) (by rfl) (fun W hW => by go_simp; (try with_reducible rfl)) ?_; (try simp only [Act.put, List.setIfInBounds_toArray, List.set_cons_zero, List.set_cons_succ])) | (refine Hp.soft_skip (i := 29) (oi := ⟨some 79, Op.fieldAddr 27 (Operand.tmp 3) 1, _, _, _, some (28, true)⟩) rfl (by kernel_rfl) (by kernel_rfl) (by kernel_rfl) (fun _ _ _ h => h) (fun _ q => q) (by rfl) ?_; (try simp only [Act.put, List.setIfInBounds_toArray, List.set_cons_zero, List.set_cons_succ])))
    (first | (refine Hp.soft_take (i := 30) (oi := ⟨some 80, Op.load 23 (Operand.tmp 79), _, _, _, some (28, true)⟩) _ rfl (by kernel_rfl) (by kernel_rfl) (by kernel_rfl) (fun _ _ _ h => h) (fun _ q => q) (by rfl) (fun W hW => by (have F := Hp.Sh.facts hW); (have hd := Hp.Sh.data hW); (try simp only [Hp.Facts, Hp.CellsAt, BatP.cellsAt_bt, BatP.cellsAt_bt, Nat.reduceAdd, List.cons_append, List.nil_append] at F); skip; go_simp; (try with_reducible rfl)) ?_; (try simp only [Act.put, List.setIfInBounds_toArray, List.set_cons_zero, List.set_cons_succ])) | (refine Hp.soft_skip (i := 30) (oi := ⟨some 80, Op.load 23 (Operand.tmp 79), _, _, _, some (28, true)⟩) rfl (by kernel_rfl) (by kernel_rfl) (by kernel_rfl) (fun _ _ _ h => h) (fun _ q => q) (by rfl) ?_; (try simp only [Act.put, List.setIfInBounds_toArray, List.set_cons_zero, List.set_cons_succ])))
    (first | (refine Hp.soft_call (i := 31) (oi := ⟨some 81, Op.call { callee := Callee.value (Operand.func 16), args := #[Operand.tmp 80], argTypes := #[23] }, _, _, _, some (28, true)⟩) _ _ _ rfl (by kernel_rfl) (by kernel_rfl) (by kernel_rfl) (fun _ _ _ h => h) (fun _ q => q) (by rfl) (fun W hW => by go_simp) (fun W hW => (K6.out s1 k1 hk1 W hW.data.1)) ?_; (try simp only [Act.put, List.setIfInBounds_toArray, List.set_cons_zero, List.set_cons_succ])) | (refine Hp.soft_skip (i := 31) (oi := ⟨some 81, Op.call { callee := Callee.value (Operand.func 16), args := #[Operand.tmp 80], argTypes := #[23] }, _, _, _, some (28, true)⟩) rfl (by kernel_rfl) (by kernel_rfl) (by kernel_rfl) (fun _ _ _ h => h) (fun _ q => q) (by rfl) ?_; (try simp only [Act.put, List.setIfInBounds_toArray, List.set_cons_zero, List.set_cons_succ])))
    (refine Hp.soft_take (i := 32) (oi := ⟨some 82, Op.pick (Operand.tmp 78) (Operand.tmp 81) (Operand.const (Value.bool false)), _, _, _, none⟩) _ rfl (by kernel_rfl) (by kernel_rfl) (by kernel_rfl) (fun _ _ _ h => h) (fun _ q => q) (by rfl) (fun W hW => by go_simp; (try with_reducible rfl)) ?_; (try simp only [Act.put, List.setIfInBounds_toArray, List.set_cons_zero, List.set_cons_succ]))
    (refine Hp.soft_take (i := 33) (oi := ⟨some 2, Op.assign (Operand.tmp 82), _, _, _, none⟩) _ rfl (by kernel_rfl) (by kernel_rfl) (by kernel_rfl) (fun _ _ _ h => h) (fun _ q => q) (by rfl) (fun W hW => by go_simp; (try with_reducible rfl)) ?_; (try simp only [Act.put, List.setIfInBounds_toArray, List.set_cons_zero, List.set_cons_succ]))
    refine Hp.soft_done (by kernel_rfl) (fun w1 sh => ?_) _; (try clear F); (try have F := Hp.Sh.facts sh); (try simp only [Hp.Facts, Hp.CellsAt, BatP.cellsAt_bt, BatP.cellsAt_bt, Nat.reduceAdd, List.cons_append, List.nil_append] at F)
    go_wp2_with (first
        | ((first | (with_reducible refine Hp.wpl_box sh ?_ ?_) | (with_reducible refine Hp.wpl_alloc Tryd.z_ev sh ?_ ?_) | (with_reducible refine Hp.wpl_alloc Tryd.z_bt sh ?_ ?_) | (with_reducible refine Hp.wpl_alloc Tryd.z_dg sh ?_ ?_) | (with_reducible refine Hp.atl_store ?_ ?_)); exact rfl; (try ((first | refine Hp.ws 0 sh rfl ?_ ?_ | refine Hp.ws 1 sh rfl ?_ ?_ | refine Hp.ws 2 sh rfl ?_ ?_ | refine Hp.ws 3 sh rfl ?_ ?_ | refine Hp.ws 4 sh rfl ?_ ?_ | refine Hp.ws 5 sh rfl ?_ ?_ | refine Hp.ws 6 sh rfl ?_ ?_); kernel_rfl)); clear sh; (try clear F); go_simp; (first | intro b w1 sh | intro w1 sh); have F := sh.facts; (try simp only [Hp.Facts, Hp.CellsAt, BatP.cellsAt_bt, BatP.cellsAt_bt, Nat.reduceAdd, List.cons_append, List.nil_append] at F))
        | fail)
    go_ret
    exact ⟨by first | rfl | simp, sh.below⟩
  · have h2 := BatP.get_none (s := q) (by rw [hX]; exact he)
    rw [h2, hX] at K1
    unfold BatP.GetP BatP.noB BatP.zeroB at K1
    dsimp only [List.length_nil] at K1
    have d0 : (er != 0) = true := by simpa using he
    clear hX he h2 hsz hG
    go_enter Tryd.func4, Tryd.ntmps4
    have F := sh.facts; (try simp only [Hp.Facts, Hp.CellsAt, BatP.cellsAt_bt, BatP.cellsAt_bt, Nat.reduceAdd, List.cons_append, List.nil_append] at F)
    go_wp2_with (first
        | ((first | (with_reducible refine Hp.wpl_box sh ?_ ?_) | (with_reducible refine Hp.wpl_alloc Tryd.z_ev sh ?_ ?_) | (with_reducible refine Hp.wpl_alloc Tryd.z_bt sh ?_ ?_) | (with_reducible refine Hp.wpl_alloc Tryd.z_dg sh ?_ ?_) | (with_reducible refine Hp.atl_store ?_ ?_)); exact rfl; (try ((first | refine Hp.ws 0 sh rfl ?_ ?_ | refine Hp.ws 1 sh rfl ?_ ?_ | refine Hp.ws 2 sh rfl ?_ ?_ | refine Hp.ws 3 sh rfl ?_ ?_ | refine Hp.ws 4 sh rfl ?_ ?_ | refine Hp.ws 5 sh rfl ?_ ?_ | refine Hp.ws 6 sh rfl ?_ ?_); kernel_rfl)); clear sh; (try clear F); go_simp; (first | intro b w1 sh | intro w1 sh); have F := sh.facts; (try simp only [Hp.Facts, Hp.CellsAt, BatP.cellsAt_bt, BatP.cellsAt_bt, Nat.reduceAdd, List.cons_append, List.nil_append] at F))
        | fail)
    go_fit (K1.out _)
    rintro e w1 ⟨s1, k1, rfl, hn9, hr9, hb9, hk1, -⟩
    replace sh := Hp.gain sh hb9 hn9 hr9
    clear hn9 hr9 hb9
    (try clear F); (have F := sh.facts; (try simp only [BatP.cellsAt_bt, Hp.Facts, Hp.CellsAt, BatP.cellsAt_bt, BatP.cellsAt_bt, Nat.reduceAdd, List.cons_append, List.nil_append] at F))
    have tok_b3 : True := trivial
    go_wp2_with (first
        | ((with_reducible refine Hp.at_st 27 ?_ ?_); (rotate_left; exact rfl); (refine Hp.bst_all 0 sh rfl rfl rfl rfl (BatP.bt_size' rfl) ?_); clear sh; (try clear F); go_simp; intro w1 sh; (have F := sh.facts; (try simp only [BatP.cellsAt_bt, Hp.Facts, Hp.CellsAt, BatP.cellsAt_bt, BatP.cellsAt_bt, Nat.reduceAdd, List.cons_append, List.nil_append] at F)))
        | ((first | (with_reducible refine Hp.wpl_box sh ?_ ?_) | (with_reducible refine Hp.wpl_alloc Tryd.z_ev sh ?_ ?_) | (with_reducible refine Hp.wpl_alloc Tryd.z_bt sh ?_ ?_) | (with_reducible refine Hp.wpl_alloc Tryd.z_dg sh ?_ ?_) | (with_reducible refine Hp.atl_store ?_ ?_)); exact rfl; (try ((first | refine Hp.ws 0 sh rfl ?_ ?_ | refine Hp.ws 1 sh rfl ?_ ?_ | refine Hp.ws 2 sh rfl ?_ ?_ | refine Hp.ws 3 sh rfl ?_ ?_ | refine Hp.ws 4 sh rfl ?_ ?_ | refine Hp.ws 5 sh rfl ?_ ?_ | refine Hp.ws 6 sh rfl ?_ ?_); kernel_rfl)); clear sh; (try clear F); go_simp; (first | (have tok := tok_b3; clear tok tok_b3; intro b3 w1 sh) | intro b w1 sh | intro w1 sh); have F := sh.facts; (try simp only [Hp.Facts, Hp.CellsAt, BatP.cellsAt_bt, BatP.cellsAt_bt, Nat.reduceAdd, List.cons_append, List.nil_append] at F))
        | fail)
    go_fit (K0.out _)
    rintro e w1 ⟨rfl, hb⟩
    replace sh := sh.call hb; clear hb; (try clear F); have F := sh.facts; (try simp only [Hp.Facts, Hp.CellsAt, BatP.cellsAt_bt, BatP.cellsAt_bt, Nat.reduceAdd, List.cons_append, List.nil_append] at F)
    go_wp2_with (first
        | ((first | (with_reducible refine Hp.wpl_box sh ?_ ?_) | (with_reducible refine Hp.wpl_alloc Tryd.z_ev sh ?_ ?_) | (with_reducible refine Hp.wpl_alloc Tryd.z_bt sh ?_ ?_) | (with_reducible refine Hp.wpl_alloc Tryd.z_dg sh ?_ ?_) | (with_reducible refine Hp.atl_store ?_ ?_)); exact rfl; (try ((first | refine Hp.ws 0 sh rfl ?_ ?_ | refine Hp.ws 1 sh rfl ?_ ?_ | refine Hp.ws 2 sh rfl ?_ ?_ | refine Hp.ws 3 sh rfl ?_ ?_ | refine Hp.ws 4 sh rfl ?_ ?_ | refine Hp.ws 5 sh rfl ?_ ?_ | refine Hp.ws 6 sh rfl ?_ ?_); kernel_rfl)); clear sh; (try clear F); go_simp; (first | intro b w1 sh | intro w1 sh); have F := sh.facts; (try simp only [Hp.Facts, Hp.CellsAt, BatP.cellsAt_bt, BatP.cellsAt_bt, Nat.reduceAdd, List.cons_append, List.nil_append] at F))
        | fail)
    go_ret
    exact ⟨by first | rfl | simp, sh.below⟩

end Go.Proofs.YtkjmhnbijbpmkaaDoor
