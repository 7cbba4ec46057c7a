
/-
  The walk of the chapter's example.
-/
import Derived.Test.YtkjmhnbijbpmkaaDoorBat11
import Derived.Test.YtkjmhnbijbpmkaaDoorBat8
namespace Go.Proofs.YtkjmhnbijbpmkaaDoor
open Go.RowKit
set_option linter.unusedVariables false
set_option linter.unusedSimpArgs false
namespace BatP
def exE : Ev := (7, 0, -1, 1, 0, 0)
def exB : Ba := (7, [exE], zeros)
theorem ex_is : isB exB = true := by kernel_rfl
theorem ex_ok : Ok exB := ⟨by decide, rfl, fun x hx => by simp only [exB, List.mem_cons, List.not_mem_nil, or_false] at hx; subst hx; decide⟩
theorem ex_evb : ∀ x ∈ [exE], EvP.EvB x := by
  intro x hx
  simp only [List.mem_cons, List.not_mem_nil, or_false] at hx
  subst hx
  unfold EvP.EvB; decide
theorem p0 : WireP.putL 0 = [0] := WireP.putL_small (by decide)
theorem p1 : WireP.putL 1 = [1] := WireP.putL_small (by decide)
theorem p6 : WireP.putL 6 = [6] := WireP.putL_small (by decide)
theorem p7 : WireP.putL 7 = [7] := WireP.putL_small (by decide)
theorem ex_body : bodyL exB = zeros ++ [7, 1, 6, 1, 7, 0, 0, 0, 0] := by
  have e1 : EvP.putE exE = [1, 7, 0, 0, 0, 0] := by
    show UInt8.ofNat 1 :: (WireP.putL 7 ++ WireP.putL 0 ++ WireP.putL 0 ++ WireP.putL 0 ++ WireP.putL 0) = _
    rw [p7, p0]; rfl
  show zeros ++ (WireP.putL 7 ++ (WireP.putL 1 ++ ((WireP.putL (EvP.putE exE).length ++ EvP.putE exE) ++ []))) = _
  rw [e1, p7, p1, show ([1, 7, 0, 0, 0, 0] : List UInt8).length = 6 from rfl, p6]
  rfl
theorem ex_len : (outL exB).length = 50 := by rw [out_len, ex_body]; rfl
theorem ex_take : (outL exB).take 5 = [66, 0, 0, 0, 41] := by
  unfold outL sumL frameL
  rw [ex_body]
  rfl
theorem ex_get : getB (outL exB ++ [120]) = ((exB, 50), 0) := by rw [get_put ex_ok ex_is, ex_len]
theorem ex_put : putB exB = (outL exB, 0) := putB_yes ex_is
theorem ex_x : getB [120] = noB 3 := by rfl
theorem ex_none : putB (0, [], zeros) = ([], 1) := by rfl
end BatP

set_option maxHeartbeats 4000000 in
set_option maxRecDepth 100000 in
theorem bbatched (w : World) : Calls Tryd.prog 10 #[] w fun e w' => e = .returned (.bool true) ∧ Below w.heap.size w w' := by
  have sh := (Hp.Sh.start (fun _ _ => trivial) : Hp.Sh w w [] (fun _ => True))
  have K1 := Lib.hid (fun bl W (q : Hp.RdV W (some ⟨bl, 0, none⟩) ([BatP.exE].flatMap EvP.evc)) => bput 7 (some ⟨bl, 0, none⟩) 1 1 [BatP.exE] BatP.zeros rfl (by decide) rfl (by decide) (by decide) BatP.ex_evb W q)
  rw [show ((7, [BatP.exE], BatP.zeros) : BatP.Ba) = BatP.exB from rfl, BatP.ex_put] at K1
  dsimp only at K1
  have K2 := Lib.hid (fun W => bget (BatP.outL BatP.exB ++ [120]) (by rw [List.length_append, BatP.ex_len]; decide) W)
  rw [BatP.ex_get] at K2
  unfold BatP.GetP at K2
  dsimp only [BatP.exB, List.length_cons, List.length_nil] at K2
  rw [← bstr_append, show bstr [120] = ⟨#[120]⟩ from rfl, show ((7, [BatP.exE], BatP.zeros) : BatP.Ba) = BatP.exB from rfl] at K2
  have K3 := Lib.hid (fun W => bget [120] (by decide) W)
  rw [BatP.ex_x, show bstr [120] = ⟨#[120]⟩ from rfl] at K3
  unfold BatP.GetP BatP.noB BatP.zeroB at K3
  dsimp only [List.length_nil] at K3
  have K4 := Lib.hid (fun W => (show Calls Tryd.prog 6 #[.agg #[.int .u64 0, .slice none 0 0, .int .u8 0, .int .u8 0, .int .u8 0, .int .u8 0, .int .u8 0, .int .u8 0, .int .u8 0, .int .u8 0, .int .u8 0, .int .u8 0, .int .u8 0, .int .u8 0, .int .u8 0, .int .u8 0, .int .u8 0, .int .u8 0, .int .u8 0, .int .u8 0, .int .u8 0, .int .u8 0, .int .u8 0, .int .u8 0, .int .u8 0, .int .u8 0, .int .u8 0, .int .u8 0, .int .u8 0, .int .u8 0, .int .u8 0, .int .u8 0, .int .u8 0, .int .u8 0]] W (fun e w' => e = .returned (.tuple #[.string ByteArray.empty, .int .i64 1]) ∧ Below W.heap.size W w') from bput 0 none 0 0 [] BatP.zeros rfl (by decide) rfl (by decide) (by decide) (fun _ h => by cases h) W (Hp.RdV.nil _ _)))
  have K5 := Lib.hid (fun s1 s2 c1 c2 W q q2 => bsame 7 s1 s2 1 c1 c2 [BatP.exE] BatP.zeros rfl rfl (by decide) W q q2)
  have K6 := Lib.hid (fun s c W => blast 7 s 1 c BatP.zeros (by decide) W)
  rw [show IntKind.u64.wrap (IntKind.u64.wrap (7 + ((1 : Nat) : Int)) - 1) = 7 by decide] at K6
  obtain ⟨O, hO⟩ : ∃ O, BatP.outL BatP.exB = O := ⟨_, rfl⟩
  have hl := BatP.ex_len
  have h5 := BatP.ex_take
  rw [hO] at K1 K2 hl h5
  have n2 : (bstr O).size = 50 := by rw [bstr_size, hl]
  have n3 : (bstr O).extract 0 5 = bstr [66, 0, 0, 0, 41] := by rw [bstr_extract, bstr_data, h5]; rfl
  have n4 : ((bstr [66, 0, 0, 0, 41]).toList == [66, 0, 0, 0, 41]) = true := by rw [bstr_toList]; rfl
  have n5 : (bstr [66, 0, 0, 0, 41]).toList = [66, 0, 0, 0, 41] := by rw [bstr_toList]
  have HPL := Lib.hid (show BatP.zeros.length = 32 from rfl)
  clear hO hl h5
  go_enter Tryd.func10, Tryd.ntmps10
  have F : True := trivial
  have tok_b1 : True := trivial
  go_wp2_with (first
      | ((with_reducible refine Hp.atl_lit ?_ ?_); exact rfl; (refine wp_lits (m := 1) (c := #[.int .u64 7, .int .i64 0, .int .i64 (-1), .int .i64 1, .int .i64 0, .int .i64 0]) (t := 44) (fun w => by kernel_rfl) sh ?_); clear sh; (try clear F); intro bl w1 sh; replace sh := sh.freeze1 (vs := [BatP.exE].flatMap EvP.evc) (fun i v h => by simpa [EvP.evc, BatP.exE] using h); (have F := sh.facts; (try simp only [BatP.cellsAt_bt, Hp.Facts, Hp.CellsAt, BatP.cellsAt_bt, Nat.reduceAdd, List.cons_append, List.nil_append] at F)); go_simp)
      | ((with_reducible refine Hp.at_st 27 ?_ ?_); (rotate_left; exact rfl); (refine Hp.bst_all (g := 7) (s := some ⟨bl, 0, none⟩) (n := 1) (c := 1) (q := BatP.zeros) 0 sh rfl rfl rfl rfl (BatP.bt_size' rfl) ?_); clear sh; (try clear F); go_simp; intro w1 sh; (have F := sh.facts; (try simp only [BatP.cellsAt_bt, Hp.Facts, Hp.CellsAt, BatP.cellsAt_bt, Nat.reduceAdd, List.cons_append, List.nil_append] at F)))
      | ((with_reducible refine Hp.at_ld 27 ?_); (refine Hp.bld_g 0 sh rfl rfl rfl (by kernel_rfl) (BatP.bt_size HPL.out) ?_); go_simp)
      | ((first | (with_reducible refine Hp.wpl_box sh ?_ ?_) | (with_reducible refine Hp.wpl_alloc Tryd.z_ev sh ?_ ?_) | (with_reducible refine Hp.wpl_alloc Tryd.z_bt sh ?_ ?_) | (with_reducible refine Hp.wpl_alloc Tryd.z_dg sh ?_ ?_) | (with_reducible refine Hp.atl_store ?_ ?_)); exact rfl; (try ((first | refine Hp.ws 0 sh rfl ?_ ?_ | refine Hp.ws 1 sh rfl ?_ ?_ | refine Hp.ws 2 sh rfl ?_ ?_ | refine Hp.ws 3 sh rfl ?_ ?_ | refine Hp.ws 4 sh rfl ?_ ?_ | refine Hp.ws 5 sh rfl ?_ ?_ | refine Hp.ws 6 sh rfl ?_ ?_); kernel_rfl)); clear sh; (try clear F); go_simp; (first | (have tok := tok_b1; clear tok tok_b1; intro b1 w1 sh) | intro b w1 sh | intro w1 sh); have F := sh.facts; (try simp only [Hp.Facts, Hp.CellsAt, BatP.cellsAt_bt, Nat.reduceAdd, List.cons_append, List.nil_append] at F))
      | fail)
  go_fit (K1.out bl _ sh.data)
  rintro e w1 ⟨rfl, hb⟩
  replace sh := sh.call hb; clear hb; (try clear F); have F := sh.facts; (try simp only [Hp.Facts, Hp.CellsAt, BatP.cellsAt_bt, Nat.reduceAdd, List.cons_append, List.nil_append] at F)
  go_wp2_with (first
      | ((first | (with_reducible refine Hp.wpl_box sh ?_ ?_) | (with_reducible refine Hp.wpl_alloc Tryd.z_ev sh ?_ ?_) | (with_reducible refine Hp.wpl_alloc Tryd.z_bt sh ?_ ?_) | (with_reducible refine Hp.wpl_alloc Tryd.z_dg sh ?_ ?_) | (with_reducible refine Hp.atl_store ?_ ?_)); exact rfl; (try ((first | refine Hp.ws 0 sh rfl ?_ ?_ | refine Hp.ws 1 sh rfl ?_ ?_ | refine Hp.ws 2 sh rfl ?_ ?_ | refine Hp.ws 3 sh rfl ?_ ?_ | refine Hp.ws 4 sh rfl ?_ ?_ | refine Hp.ws 5 sh rfl ?_ ?_ | refine Hp.ws 6 sh rfl ?_ ?_); kernel_rfl)); clear sh; (try clear F); go_simp; (first | intro b w1 sh | intro w1 sh); have F := sh.facts; (try simp only [Hp.Facts, Hp.CellsAt, BatP.cellsAt_bt, Nat.reduceAdd, List.cons_append, List.nil_append] at F))
      | fail)
  go_fit (K2.out _)
  rintro e w1 ⟨s4, c4, rfl, hn9, hr9, hb9, -, -⟩
  replace sh := Hp.gain sh hb9 hn9 hr9
  clear hn9 hr9 hb9
  (try clear F); (have F := sh.facts; (try simp only [BatP.cellsAt_bt, Hp.Facts, Hp.CellsAt, BatP.cellsAt_bt, Nat.reduceAdd, List.cons_append, List.nil_append] at F))
  have tok_b4 : True := trivial
  go_wp2_with (first
      | ((with_reducible refine Hp.at_st 27 ?_ ?_); (rotate_left; exact rfl); (refine Hp.bst_all 0 sh rfl rfl rfl rfl (BatP.bt_size' rfl) ?_); clear sh; (try clear F); go_simp; intro w1 sh; (have F := sh.facts; (try simp only [BatP.cellsAt_bt, Hp.Facts, Hp.CellsAt, BatP.cellsAt_bt, Nat.reduceAdd, List.cons_append, List.nil_append] at F)))
      | ((first | (with_reducible refine Hp.wpl_box sh ?_ ?_) | (with_reducible refine Hp.wpl_alloc Tryd.z_ev sh ?_ ?_) | (with_reducible refine Hp.wpl_alloc Tryd.z_bt sh ?_ ?_) | (with_reducible refine Hp.wpl_alloc Tryd.z_dg sh ?_ ?_) | (with_reducible refine Hp.atl_store ?_ ?_)); exact rfl; (try ((first | refine Hp.ws 0 sh rfl ?_ ?_ | refine Hp.ws 1 sh rfl ?_ ?_ | refine Hp.ws 2 sh rfl ?_ ?_ | refine Hp.ws 3 sh rfl ?_ ?_ | refine Hp.ws 4 sh rfl ?_ ?_ | refine Hp.ws 5 sh rfl ?_ ?_ | refine Hp.ws 6 sh rfl ?_ ?_); kernel_rfl)); clear sh; (try clear F); go_simp; (first | (have tok := tok_b4; clear tok tok_b4; intro b4 w1 sh) | intro b w1 sh | intro w1 sh); have F := sh.facts; (try simp only [Hp.Facts, Hp.CellsAt, BatP.cellsAt_bt, Nat.reduceAdd, List.cons_append, List.nil_append] at F))
      | fail)
  go_fit (K3.out _)
  rintro e w1 ⟨s7, c7, rfl, hn9, hr9, hb9, -, -⟩
  replace sh := Hp.gain sh hb9 hn9 hr9
  clear hn9 hr9 hb9
  (try clear F); (have F := sh.facts; (try simp only [BatP.cellsAt_bt, Hp.Facts, Hp.CellsAt, BatP.cellsAt_bt, Nat.reduceAdd, List.cons_append, List.nil_append] at F))
  have tok_b7 : True := trivial
  go_wp2_with (first
      | ((with_reducible refine Hp.at_st 27 ?_ ?_); (rotate_left; exact rfl); (refine Hp.bst_all 0 sh rfl rfl rfl rfl (BatP.bt_size' rfl) ?_); clear sh; (try clear F); go_simp; intro w1 sh; (have F := sh.facts; (try simp only [BatP.cellsAt_bt, Hp.Facts, Hp.CellsAt, BatP.cellsAt_bt, Nat.reduceAdd, List.cons_append, List.nil_append] at F)))
      | ((first | (with_reducible refine Hp.wpl_box sh ?_ ?_) | (with_reducible refine Hp.wpl_alloc Tryd.z_ev sh ?_ ?_) | (with_reducible refine Hp.wpl_alloc Tryd.z_bt sh ?_ ?_) | (with_reducible refine Hp.wpl_alloc Tryd.z_dg sh ?_ ?_) | (with_reducible refine Hp.atl_store ?_ ?_)); exact rfl; (try ((first | refine Hp.ws 0 sh rfl ?_ ?_ | refine Hp.ws 1 sh rfl ?_ ?_ | refine Hp.ws 2 sh rfl ?_ ?_ | refine Hp.ws 3 sh rfl ?_ ?_ | refine Hp.ws 4 sh rfl ?_ ?_ | refine Hp.ws 5 sh rfl ?_ ?_ | refine Hp.ws 6 sh rfl ?_ ?_); kernel_rfl)); clear sh; (try clear F); go_simp; (first | (have tok := tok_b7; clear tok tok_b7; intro b7 w1 sh) | intro b w1 sh | intro w1 sh); have F := sh.facts; (try simp only [Hp.Facts, Hp.CellsAt, BatP.cellsAt_bt, Nat.reduceAdd, List.cons_append, List.nil_append] at F))
      | fail)
  go_fit (K4.out _)
  rintro e w1 ⟨rfl, hb9⟩
  replace sh := sh.call hb9; clear hb9
  (try clear F); (have F := sh.facts; (try simp only [BatP.cellsAt_bt, Hp.Facts, Hp.CellsAt, BatP.cellsAt_bt, Nat.reduceAdd, List.cons_append, List.nil_append] at F))
  go_wp2_with (first
      | ((with_reducible refine Hp.at_ld 27 ?_); (first | refine Hp.bld_g 0 sh rfl rfl rfl (by kernel_rfl) (BatP.bt_size rfl) ?_ | refine Hp.bld_g 1 sh rfl rfl rfl (by kernel_rfl) (BatP.bt_size rfl) ?_ | refine Hp.bld_g 2 sh rfl rfl rfl (by kernel_rfl) (BatP.bt_size rfl) ?_); go_simp)
      | ((first | (with_reducible refine Hp.wpl_box sh ?_ ?_) | (with_reducible refine Hp.wpl_alloc Tryd.z_ev sh ?_ ?_) | (with_reducible refine Hp.wpl_alloc Tryd.z_bt sh ?_ ?_) | (with_reducible refine Hp.wpl_alloc Tryd.z_dg sh ?_ ?_) | (with_reducible refine Hp.atl_store ?_ ?_)); exact rfl; (try ((first | refine Hp.ws 0 sh rfl ?_ ?_ | refine Hp.ws 1 sh rfl ?_ ?_ | refine Hp.ws 2 sh rfl ?_ ?_ | refine Hp.ws 3 sh rfl ?_ ?_ | refine Hp.ws 4 sh rfl ?_ ?_ | refine Hp.ws 5 sh rfl ?_ ?_ | refine Hp.ws 6 sh rfl ?_ ?_); kernel_rfl)); clear sh; (try clear F); go_simp; (first | intro b w1 sh | intro w1 sh); have F := sh.facts; (try simp only [Hp.Facts, Hp.CellsAt, BatP.cellsAt_bt, Nat.reduceAdd, List.cons_append, List.nil_append] at F))
      | fail)
  go_fit (K5.out (some ⟨bl, 0, none⟩) s4 1 c4 _ sh.data.2.2 sh.data.2.1)
  rintro e w1 ⟨rfl, hb⟩
  replace sh := sh.call hb; clear hb; (try clear F); have F := sh.facts; (try simp only [Hp.Facts, Hp.CellsAt, BatP.cellsAt_bt, Nat.reduceAdd, List.cons_append, List.nil_append] at F)
  go_wp2_with (first
      | ((with_reducible refine Hp.at_ld 27 ?_); (first | refine Hp.bld_g 0 sh rfl rfl rfl (by kernel_rfl) (BatP.bt_size rfl) ?_ | refine Hp.bld_g 1 sh rfl rfl rfl (by kernel_rfl) (BatP.bt_size rfl) ?_ | refine Hp.bld_g 2 sh rfl rfl rfl (by kernel_rfl) (BatP.bt_size rfl) ?_); go_simp)
      | ((first | (with_reducible refine Hp.wpl_box sh ?_ ?_) | (with_reducible refine Hp.wpl_alloc Tryd.z_ev sh ?_ ?_) | (with_reducible refine Hp.wpl_alloc Tryd.z_bt sh ?_ ?_) | (with_reducible refine Hp.wpl_alloc Tryd.z_dg sh ?_ ?_) | (with_reducible refine Hp.atl_store ?_ ?_)); exact rfl; (try ((first | refine Hp.ws 0 sh rfl ?_ ?_ | refine Hp.ws 1 sh rfl ?_ ?_ | refine Hp.ws 2 sh rfl ?_ ?_ | refine Hp.ws 3 sh rfl ?_ ?_ | refine Hp.ws 4 sh rfl ?_ ?_ | refine Hp.ws 5 sh rfl ?_ ?_ | refine Hp.ws 6 sh rfl ?_ ?_); kernel_rfl)); clear sh; (try clear F); go_simp; (first | intro b w1 sh | intro w1 sh); have F := sh.facts; (try simp only [Hp.Facts, Hp.CellsAt, BatP.cellsAt_bt, Nat.reduceAdd, List.cons_append, List.nil_append] at F))
      | fail)
  go_fit (K6.out _ _ _)
  rintro e w1 ⟨rfl, hb⟩
  replace sh := sh.call hb; clear hb; (try clear F); have F := sh.facts; (try simp only [Hp.Facts, Hp.CellsAt, BatP.cellsAt_bt, Nat.reduceAdd, List.cons_append, List.nil_append] at F)
  go_wp2_with (first
      | ((first | (with_reducible refine Hp.wpl_box sh ?_ ?_) | (with_reducible refine Hp.wpl_alloc Tryd.z_ev sh ?_ ?_) | (with_reducible refine Hp.wpl_alloc Tryd.z_bt sh ?_ ?_) | (with_reducible refine Hp.wpl_alloc Tryd.z_dg sh ?_ ?_) | (with_reducible refine Hp.atl_store ?_ ?_)); exact rfl; (try ((first | refine Hp.ws 0 sh rfl ?_ ?_ | refine Hp.ws 1 sh rfl ?_ ?_ | refine Hp.ws 2 sh rfl ?_ ?_ | refine Hp.ws 3 sh rfl ?_ ?_ | refine Hp.ws 4 sh rfl ?_ ?_ | refine Hp.ws 5 sh rfl ?_ ?_ | refine Hp.ws 6 sh rfl ?_ ?_); kernel_rfl)); clear sh; (try clear F); go_simp; (first | intro b w1 sh | intro w1 sh); have F := sh.facts; (try simp only [Hp.Facts, Hp.CellsAt, BatP.cellsAt_bt, Nat.reduceAdd, List.cons_append, List.nil_append] at F))
      | fail)
  go_ret
  exact ⟨rfl, sh.below⟩

end Go.Proofs.YtkjmhnbijbpmkaaDoor