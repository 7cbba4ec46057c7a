
/-
  Layer 9, plain: the chapter's example.
-/
import Derived.Test.YtfcffglgkblidaaDoorChnLen
import Derived.Test.YtfcffglgkblidaaDoorChn3
namespace Go.Proofs.YtfcffglgkblidaaDoor
set_option linter.unusedVariables false
set_option maxRecDepth 100000
namespace ChnP
def e8 : Ev := (8, 0, 0, 8, 0, 0)
def exS : Bs := [66, 0, 0, 0, 41, 0, 0, 0, 0, 0, 0, 0, 0, 0, 0, 0, 0, 0, 0, 0, 0, 0, 0, 0, 0, 0, 0, 0, 0, 0, 0, 0, 0, 0, 0, 0, 0, 7, 1, 6, 1, 7, 0, 1, 0, 0, 233, 98, 234, 180]
def exA : Bs := [148, 110, 234, 41, 98, 78, 111, 245, 0, 96, 186, 160, 61, 88, 227, 218, 12, 208, 0, 20, 154, 54, 24, 218, 218, 66, 1, 57, 101, 3, 236, 215]
def exT : Bs := [66, 0, 0, 0, 41, 148, 110, 234, 41, 98, 78, 111, 245, 0, 96, 186, 160, 61, 88, 227, 218, 12, 208, 0, 20, 154, 54, 24, 218, 218, 66, 1, 57, 101, 3, 236, 215, 8, 1, 6, 8, 8, 0, 1, 0, 0, 44, 244, 154, 206]
def exD : Bs := [23, 7, 206, 78, 61, 1, 142, 65, 46, 101, 63, 137, 95, 37, 136, 199, 38, 75, 172, 117, 222, 32, 190, 38, 242, 137, 117, 39, 218, 73, 160, 100]
theorem put7 : EvP.putE e7 = [1, 7, 0, 1, 0, 0] := by
  show UInt8.ofNat 1 :: (WireP.putL 7 ++ WireP.putL 0 ++ WireP.putL 1 ++ WireP.putL 0 ++ WireP.putL 0) = _
  rw [WireP.putL_small (n := 7) (by decide), WireP.putL_small (n := 0) (by decide), WireP.putL_small (n := 1) (by decide)]; rfl
theorem put8 : EvP.putE e8 = [8, 8, 0, 1, 0, 0] := by
  show UInt8.ofNat 8 :: (WireP.putL 8 ++ WireP.putL 0 ++ WireP.putL 1 ++ WireP.putL 0 ++ WireP.putL 0) = _
  rw [WireP.putL_small (n := 8) (by decide), WireP.putL_small (n := 0) (by decide), WireP.putL_small (n := 1) (by decide)]; rfl
theorem body7 : BatP.bodyL (7, [e7], BatP.zeros) = BatP.zeros ++ [7, 1, 6, 1, 7, 0, 1, 0, 0] := by
  show BatP.zeros ++ (WireP.putL 7 ++ (WireP.putL 1 ++ ((WireP.putL (EvP.putE e7).length ++ EvP.putE e7) ++ []))) = _
  rw [put7, WireP.putL_small (n := 7) (by decide), WireP.putL_small (n := 1) (by decide), show ([1, 7, 0, 1, 0, 0] : List UInt8).length = 6 from rfl, WireP.putL_small (n := 6) (by decide)]
  rfl
theorem body8 : BatP.bodyL (8, [e8], exA) = exA ++ [8, 1, 6, 8, 8, 0, 1, 0, 0] := by
  show exA ++ (WireP.putL 8 ++ (WireP.putL 1 ++ ((WireP.putL (EvP.putE e8).length ++ EvP.putE e8) ++ []))) = _
  rw [put8, WireP.putL_small (n := 8) (by decide), WireP.putL_small (n := 1) (by decide), show ([8, 8, 0, 1, 0, 0] : List UInt8).length = 6 from rfl, WireP.putL_small (n := 6) (by decide)]
  rfl
theorem exS_is : BatP.outL (7, [e7], BatP.zeros) = exS := by
  unfold BatP.outL BatP.sumL BatP.frameL
  rw [body7]
  decide +kernel
theorem exT_is : BatP.outL (8, [e8], exA) = exT := by
  unfold BatP.outL BatP.sumL BatP.frameL
  rw [body8]
  decide +kernel
theorem exA_is : DigP.of exS = exA := by decide +kernel
theorem exD_is : DigP.of exT = exD := by decide +kernel
theorem is7 : BatP.isB (7, [e7], BatP.zeros) = true := by decide +kernel
theorem is8 : BatP.isB (8, [e8], exA) = true := by decide +kernel
theorem ok7 : BatP.Ok (7, [e7], BatP.zeros) := ⟨by decide, rfl, fun x hx => by simp only [List.mem_cons, List.not_mem_nil, or_false] at hx; subst hx; decide⟩
theorem ok8 : BatP.Ok (8, [e8], exA) := ⟨by decide, rfl, fun x hx => by simp only [List.mem_cons, List.not_mem_nil, or_false] at hx; subst hx; decide⟩
theorem get7 : BatP.getB exS = (((7, [e7], BatP.zeros), 50), 0) := by
  have h := BatP.get_put ok7 is7 []
  rw [List.append_nil, exS_is] at h
  exact h
theorem get8 : BatP.getB exT = (((8, [e8], exA), 50), 0) := by
  have h := BatP.get_put ok8 is8 []
  rw [List.append_nil, exT_is] at h
  exact h
theorem ex_link1 : link BatP.zeros [e7] = (((7, [e7], BatP.zeros), exS), 0) := by
  unfold link
  rw [show firstOf [e7] = 7 from rfl, if_pos is7, exS_is]
theorem ex_link2 : link exA [e8] = (((8, [e8], exA), exT), 0) := by
  unfold link
  rw [show firstOf [e8] = 8 from rfl, if_pos is8, exT_is]
theorem ex_chk : chk BatP.zeros 7 [exS, exT] [] = (([e7, e8], exD), 0) := by
  rw [chk_next get7 (by decide) rfl rfl, exA_is]
  show chk exA (nxt 7 1) [exT] [e7] = _
  rw [show nxt 7 1 = 8 by decide]
  rw [chk_next (b := (8, [e8], exA)) get8 (by decide) rfl rfl, exD_is]
  rfl
theorem ex_chk8 : chk BatP.zeros 8 [exT] [] = (([], BatP.zeros), 11) := chk_chain get8 (by decide) (Or.inl (by decide))
theorem ex_clash : clash [exS, exT].reverse [exT, exS].reverse = ((exT, exS), false) := by
  show clash [exT, exS] [exS, exT] = _
  rw [clash_cons, if_neg (by decide), exA_is, exD_is]
  rfl
theorem ex_len : exS.length = 50 ∧ exT.length = 50 := ⟨rfl, rfl⟩
end ChnP
end Go.Proofs.YtfcffglgkblidaaDoor

/-
  The walk of the chapter's example.
-/
namespace Go.Proofs.YtfcffglgkblidaaDoor
open Go.RowKit
set_option linter.unusedVariables false
set_option linter.unusedSimpArgs false
theorem Tryd.i_str : (Tryd.prog.info? 9).map (fun i => (i.zero, i.size, i.bytes)) = some (some (.string ⟨#[]⟩), 1, 16) := by kernel_rfl
namespace ChnP
theorem evb7 : ∀ x ∈ [e7], EvP.EvB x := by
  intro x hx
  simp only [List.mem_cons, List.not_mem_nil, or_false] at hx
  subst hx
  unfold EvP.EvB; decide
theorem evb8 : ∀ x ∈ [e8], EvP.EvB x := by
  intro x hx
  simp only [List.mem_cons, List.not_mem_nil, or_false] at hx
  subst hx
  unfold EvP.EvB; decide
/-- The first text's row's second event, in a cell of its own. -/
theorem seq8 {W : World} {p : Addr} (h : Hp.RdV W (some p) ([e7, e8].flatMap EvP.evc)) : W.cell? ⟨p.block, p.off + 6, none⟩ = some (.int .u64 8) := by
  obtain ⟨p', hp, hc⟩ := h (by decide)
  obtain rfl := Option.some.inj hp
  exact hc 6 _ rfl
end ChnP

set_option maxHeartbeats 4000000 in
set_option maxRecDepth 100000 in
theorem clinked (w : World) (hG : Hp.RdV w (some ⟨0, 0, none⟩) (DigP.wds DigP.consts)) : Calls Tryd.prog 11 #[] w fun e w' => e = .returned (.bool true) ∧ Below w.heap.size w w' := by
  have sh := (Hp.Sh.start (RdV_rob hG) : Hp.Sh w w [] (fun W => Hp.RdV W (some ⟨0, 0, none⟩) (DigP.wds DigP.consts)))
  have hz : BatP.zeros.length = 32 := rfl
  have K1 := Lib.hid (fun bl W q => clink BatP.zeros hz (some ⟨bl, 0, none⟩) 1 1 [ChnP.e7] rfl (by decide) (by decide) (fun h => by cases h) (by decide) ChnP.evb7 W q)
  rw [ChnP.ex_link1] at K1
  have KO := Lib.hid (fun W g => cof ChnP.exS (by decide) W g)
  rw [ChnP.exA_is] at KO
  have K2 := Lib.hid (fun bl W q => clink ChnP.exA rfl (some ⟨bl, 0, none⟩) 1 1 [ChnP.e8] rfl (by decide) (by decide) (fun h => by cases h) (by decide) ChnP.evb8 W q)
  rw [ChnP.ex_link2] at K2
  have K3 := Lib.hid (fun s W q g => ccheck BatP.zeros hz 7 (by decide) s 2 2 [ChnP.exS, ChnP.exT] rfl (by decide) (by decide) W q g)
  rw [ChnP.ex_chk] at K3
  have K4 := Lib.hid (fun s W q g => ccheck BatP.zeros hz 8 (by decide) s 1 1 [ChnP.exT] rfl (by decide) (by decide) W q g)
  rw [ChnP.ex_chk8] at K4
  have K5 := Lib.hid (fun s1 s2 W q q2 g => cclash s1 s2 2 2 2 2 [ChnP.exS, ChnP.exT] [ChnP.exT, ChnP.exS] rfl rfl (by decide) (by decide) (by decide) (by decide) W q q2 g)
  rw [ChnP.ex_clash] at K5
  have K6 := Lib.hid (fun W g => cof ChnP.exT (by decide) W g)
  rw [ChnP.exD_is] at K6
  unfold ChnP.LinkP at K1 K2
  unfold ChnP.ChkP at K3 K4
  unfold ChnP.claV at K5
  dsimp only [List.length_cons, List.length_nil, Nat.reduceAdd] at K1 K2 K3 K4 K5
  have hA : ChnP.exA.length = 32 := rfl
  have hD : ChnP.exD.length = 32 := rfl
  obtain ⟨S, hS⟩ : ∃ S, ChnP.exS = S := ⟨_, rfl⟩
  obtain ⟨T, hT⟩ : ∃ S, ChnP.exT = S := ⟨_, rfl⟩
  obtain ⟨A, hAe⟩ : ∃ S, ChnP.exA = S := ⟨_, rfl⟩
  obtain ⟨D, hDe⟩ : ∃ S, ChnP.exD = S := ⟨_, rfl⟩
  rw [hS, hT] at K3 K5
  rw [hS] at K1 KO
  rw [hT] at K2 K4 K6
  rw [hAe] at KO K2 hA
  rw [hDe] at K3 K6 hD
  have HD := bdeq D D hD hD
  rw [show (D == D) = true by simp] at HD
  have d1 := ChnP.bstr_same S
  have d2 := ChnP.bstr_same T
  have HQ := Lib.hid (show A.length = BatP.zeros.length from hA)
  have HDG := Lib.hid (show D.length = BatP.zeros.length from hD)
  have HDL := Lib.hid hD
  clear hS hT hAe hDe hA hD hG hz
  go_enter Tryd.func11, Tryd.ntmps11
  have F := sh.fxb
  have tok_b1 : True := trivial
  go_wp2_with (first
      | ((with_reducible refine Hp.atl_lit ?_ ?_); exact rfl; (refine wp_lits (m := 1) (c := #[.int .u64 7, .int .i64 0, .int .i64 0, .int .i64 1, .int .i64 0, .int .i64 0]) (t := 47) (fun w => by kernel_rfl) sh ?_); clear sh; (try clear F); intro bl w1 sh; replace sh := sh.freeze1 (vs := [ChnP.e7].flatMap EvP.evc) (fun i v h => by simpa [EvP.evc, ChnP.e7] using h); (have F := sh.fxb); go_simp)
      | ((with_reducible refine Hp.at_ld 23 ?_); (first | refine Hp.bld_g 0 sh rfl rfl rfl (by kernel_rfl) (BatP.dg_size rfl) ?_ | refine Hp.bld_g 1 sh rfl rfl rfl (by kernel_rfl) (BatP.dg_size rfl) ?_ | refine Hp.bld_g 2 sh rfl rfl rfl (by kernel_rfl) (BatP.dg_size rfl) ?_ | refine Hp.bld_g 3 sh rfl rfl rfl (by kernel_rfl) (BatP.dg_size rfl) ?_); (try simp only [Act.put, Hp.p1, Hp.p2, Hp.p3]))
      | ((with_reducible first | refine Hp.wpl_box sh ?_ ?_ | refine Hp.wpa sh ?_ ?_ | refine Hp.atl_store ?_ ?_); exact rfl; (try (refine Hp.wsB sh ?_)); clear sh; (try clear F); go_simp; (first | (have tok := tok_b1; clear tok tok_b1; intro b1 w1 sh) | intro b w1 sh | intro w1 sh); have F := sh.fxb)
      | fail)
  go_fit (K1.out _ _ sh.data.1)
  rintro e w1 ⟨s1, c1, rfl, hn9, hr9, hb9, -, -⟩
  replace sh := Hp.gain sh hb9 hn9 hr9
  clear hn9 hr9 hb9
  (try clear F); (have F := sh.fxb)
  have tok_b2 : True := trivial
  go_wp2_with (first
      | ((with_reducible refine Hp.at_st 27 ?_ ?_); (rotate_left; exact rfl); (refine Hp.bst_all 0 sh rfl rfl rfl rfl (BatP.bt_size' rfl) ?_); clear sh; (try clear F); go_simp; intro w1 sh; (have F := sh.fxb))
      | ((with_reducible first | refine Hp.wpl_box sh ?_ ?_ | refine Hp.wpa sh ?_ ?_ | refine Hp.atl_store ?_ ?_); exact rfl; (try (refine Hp.wsB sh ?_)); clear sh; (try clear F); go_simp; (first | (have tok := tok_b2; clear tok tok_b2; intro b2 w1 sh) | intro b w1 sh | intro w1 sh); have F := sh.fxb)
      | fail)
  go_fit (KO.out _ sh.data.2.2)
  rintro e w1 ⟨rfl, hb⟩
  replace sh := sh.call hb; clear hb; (try clear F); have F := sh.fxb
  go_wp2_with (first
      | ((with_reducible refine Hp.atl_lit ?_ ?_); exact rfl; (refine wp_lits (m := 1) (c := #[.int .u64 8, .int .i64 0, .int .i64 0, .int .i64 8, .int .i64 0, .int .i64 0]) (t := 47) (fun w => by kernel_rfl) sh ?_); clear sh; (try clear F); intro bl w1 sh; replace sh := sh.freeze1 (vs := [ChnP.e8].flatMap EvP.evc) (fun i v h => by simpa [EvP.evc, ChnP.e8] using h); (have F := sh.fxb); go_simp)
      | ((with_reducible first | refine Hp.wpl_box sh ?_ ?_ | refine Hp.wpa sh ?_ ?_ | refine Hp.atl_store ?_ ?_); exact rfl; (try (refine Hp.wsB sh ?_)); clear sh; (try clear F); go_simp; (first | intro b w1 sh | intro w1 sh); have F := sh.fxb)
      | fail)
  go_fit (K2.out _ _ sh.data.1)
  rintro e w1 ⟨s2, c2, rfl, hn9, hr9, hb9, -, -⟩
  replace sh := Hp.gain sh hb9 hn9 hr9
  clear hn9 hr9 hb9
  (try clear F); (have F := sh.fxb)
  have tok_b5 : True := trivial
  go_wp2_with (first
      | ((with_reducible refine Hp.at_st 27 ?_ ?_); (rotate_left; exact rfl); (refine Hp.bst_all 0 sh rfl rfl rfl HQ.out (BatP.bt_size' rfl) ?_); clear sh; (try clear F); go_simp; intro w1 sh; (have F := sh.fxb))
      | ((with_reducible refine Hp.at_ld 23 ?_); (first | refine Hp.bld_g 0 sh rfl rfl rfl (by kernel_rfl) (BatP.dg_size rfl) ?_ | refine Hp.bld_g 1 sh rfl rfl rfl (by kernel_rfl) (BatP.dg_size rfl) ?_ | refine Hp.bld_g 2 sh rfl rfl rfl (by kernel_rfl) (BatP.dg_size rfl) ?_ | refine Hp.bld_g 3 sh rfl rfl rfl (by kernel_rfl) (BatP.dg_size rfl) ?_); (try simp only [Act.put, Hp.p1, Hp.p2, Hp.p3]))
      | ((with_reducible refine Hp.atl_lit ?_ ?_); exact rfl; (refine Hp.wp_lit 2 [.string (bstr S), .string (bstr T)] Tryd.i_str Tryd.underlying34 sh rfl rfl (by omega) rfl ?_); clear sh; (try clear F); intro b w1 sh; replace sh := sh.freeze1 (vs := [.string (bstr S), .string (bstr T)]) (fun i v h => by simpa using h); have F := sh.fxb; go_simp)
      | ((with_reducible first | refine Hp.wpl_box sh ?_ ?_ | refine Hp.wpa sh ?_ ?_ | refine Hp.atl_store ?_ ?_); exact rfl; (try (refine Hp.wsB sh ?_)); clear sh; (try clear F); go_simp; (first | (have tok := tok_b5; clear tok tok_b5; intro b5 w1 sh) | intro b w1 sh | intro w1 sh); have F := sh.fxb)
      | fail)
  go_fit (K3.out _ _ sh.data.1 sh.data.2.2.2.2.2)
  rintro e w1 ⟨s3, c3, rfl, hn9, hr9, hb9, -, -, hno⟩
  obtain ⟨p3, rfl⟩ : ∃ p3, s3 = some p3 := by
    obtain ⟨p9, h9, -⟩ := hr9 (by decide)
    exact ⟨p9, h9⟩
  replace sh := Hp.gain sh hb9 hn9 hr9
  clear hn9 hr9 hb9 hno
  (try clear F); (have F := sh.fxb)
  have tok_b9 : True := trivial
  go_wp2_with (first
      | ((with_reducible refine Hp.at_st 23 ?_ ?_); (rotate_left; exact rfl); (refine Hp.bst_arr 0 sh rfl rfl rfl HDG.out (by kernel_rfl) ?_); clear sh; (try clear F); go_simp; intro w1 sh; (have F := sh.fxb))
      | ((with_reducible refine Hp.at_ld 23 ?_); (first | refine Hp.bld_g 0 sh rfl rfl rfl (by kernel_rfl) (BatP.dg_size rfl) ?_ | refine Hp.bld_g 1 sh rfl rfl rfl (by kernel_rfl) (BatP.dg_size rfl) ?_ | refine Hp.bld_g 2 sh rfl rfl rfl (by kernel_rfl) (BatP.dg_size rfl) ?_ | refine Hp.bld_g 3 sh rfl rfl rfl (by kernel_rfl) (BatP.dg_size rfl) ?_); (try simp only [Act.put, Hp.p1, Hp.p2, Hp.p3]))
      | ((with_reducible refine Hp.atl_lit ?_ ?_); exact rfl; (refine Hp.wp_lit 1 [.string (bstr T)] Tryd.i_str Tryd.underlying34 sh rfl rfl (by omega) rfl ?_); clear sh; (try clear F); intro b w1 sh; replace sh := sh.freeze1 (vs := [.string (bstr T)]) (fun i v h => by simpa using h); have F := sh.fxb; go_simp)
      | ((with_reducible first | refine Hp.wpl_box sh ?_ ?_ | refine Hp.wpa sh ?_ ?_ | refine Hp.atl_store ?_ ?_); exact rfl; (try (refine Hp.wsB sh ?_)); clear sh; (try clear F); go_simp; (first | (have tok := tok_b9; clear tok tok_b9; intro b9 w1 sh) | intro b w1 sh | intro w1 sh); have F := sh.fxb)
      | fail)
  go_fit (K4.out _ _ sh.data.1 sh.data.2.2.2.2.2.2.2)
  rintro e w1 ⟨s4, c4, rfl, hn9, hr9, hb9, -, -, hno⟩
  replace sh := Hp.gain sh hb9 hn9 hr9
  clear hn9 hr9 hb9 hno
  (try clear F); (have F := sh.fxb)
  have tok_b12 : True := trivial
  go_wp2_with (first
      | ((with_reducible refine Hp.at_st 23 ?_ ?_); (rotate_left; exact rfl); (refine Hp.bst_arr (q := BatP.zeros) 0 sh rfl rfl rfl rfl (by kernel_rfl) ?_); clear sh; (try clear F); go_simp; intro w1 sh; (have F := sh.fxb))
      | ((with_reducible refine Hp.atl_lit ?_ ?_); exact rfl; (refine Hp.wp_lit 2 [.string (bstr S), .string (bstr T)] Tryd.i_str Tryd.underlying34 sh rfl rfl (by omega) rfl ?_); clear sh; (try clear F); intro b w1 sh; replace sh := sh.freeze1 (vs := [.string (bstr S), .string (bstr T)]) (fun i v h => by simpa using h); have F := sh.fxb; go_simp)
      | ((with_reducible refine Hp.atl_lit ?_ ?_); exact rfl; (refine Hp.wp_lit 2 [.string (bstr T), .string (bstr S)] Tryd.i_str Tryd.underlying34 sh rfl rfl (by omega) rfl ?_); clear sh; (try clear F); intro b w1 sh; replace sh := sh.freeze1 (vs := [.string (bstr T), .string (bstr S)]) (fun i v h => by simpa using h); have F := sh.fxb; go_simp)
      | ((with_reducible first | refine Hp.wpl_box sh ?_ ?_ | refine Hp.wpa sh ?_ ?_ | refine Hp.atl_store ?_ ?_); exact rfl; (try (refine Hp.wsB sh ?_)); clear sh; (try clear F); go_simp; (first | (have tok := tok_b12; clear tok tok_b12; intro b12 w1 sh) | intro b w1 sh | intro w1 sh); have F := sh.fxb)
      | fail)
  go_fit (K5.out _ _ _ sh.data.2.1 sh.data.1 sh.data.2.2.2.2.2.2.2.2.2.2)
  rintro e w1 ⟨rfl, hb9⟩
  replace sh := sh.call hb9; clear hb9
  (try clear F); (have F := sh.fxb)
  go_wp2_with (first
      | ((with_reducible first | refine Hp.wpl_box sh ?_ ?_ | refine Hp.wpa sh ?_ ?_ | refine Hp.atl_store ?_ ?_); exact rfl; (try (refine Hp.wsB sh ?_)); clear sh; (try clear F); go_simp; (first | intro b w1 sh | intro w1 sh); have F := sh.fxb)
      | fail)
  refine Hp.region_soft (by kernel_rfl) sh (fun _ q => q) ?_; clear sh; (try clear F)
  (try simp only [Hp.p2, Hp.p3])
  (refine Hp.tks (i := 0) (oi := ⟨some 62, Op.move (Operand.tmp 4), _, _, _, none⟩) (fun _ q => q) ?_)
  (refine Hp.tks (i := 1) (oi := ⟨some 63, Op.binOp BinOp.eql 28 (Operand.tmp 62) (Operand.const (Value.int IntKind.i64 0)) 28, _, _, _, none⟩) (fun _ q => q) ?_)
  (refine Hp.tks (i := 2) (oi := ⟨some 64, Op.move (Operand.tmp 63), _, _, _, none⟩) (fun _ q => q) ?_)
  (first | (refine Hp.tks (i := 3) (oi := ⟨some 65, Op.move (Operand.tmp 7), _, _, _, some (2, true)⟩) (fun _ q => q) ?_) | (refine Hp.skp (i := 3) (oi := ⟨some 65, Op.move (Operand.tmp 7), _, _, _, some (2, true)⟩) (fun _ q => q) ?_))
  (first | (refine Hp.tks (i := 4) (oi := ⟨some 66, Op.move (Operand.tmp 4), _, _, _, some (2, true)⟩) (fun _ q => q) ?_) | (refine Hp.skp (i := 4) (oi := ⟨some 66, Op.move (Operand.tmp 4), _, _, _, some (2, true)⟩) (fun _ q => q) ?_))
  (first | (refine Hp.tks (i := 5) (oi := ⟨some 67, Op.binOp BinOp.eql 28 (Operand.tmp 65) (Operand.tmp 66) 28, _, _, _, some (2, true)⟩) (fun _ q => q) ?_) | (refine Hp.skp (i := 5) (oi := ⟨some 67, Op.binOp BinOp.eql 28 (Operand.tmp 65) (Operand.tmp 66) 28, _, _, _, some (2, true)⟩) (fun _ q => q) ?_))
  (refine Hp.tks (i := 6) (oi := ⟨some 68, Op.pick (Operand.tmp 64) (Operand.tmp 67) (Operand.const (Value.bool false)), _, _, _, none⟩) (fun _ q => q) ?_)
  (refine Hp.tks (i := 7) (oi := ⟨some 69, Op.move (Operand.tmp 68), _, _, _, none⟩) (fun _ q => q) ?_)
  (first | (refine Hp.tks (i := 8) (oi := ⟨some 70, Op.move (Operand.tmp 10), _, _, _, some (7, true)⟩) (fun _ q => q) ?_) | (refine Hp.skp (i := 8) (oi := ⟨some 70, Op.move (Operand.tmp 10), _, _, _, some (7, true)⟩) (fun _ q => q) ?_))
  (first | (refine Hp.tks (i := 9) (oi := ⟨some 71, Op.move (Operand.tmp 4), _, _, _, some (7, true)⟩) (fun _ q => q) ?_) | (refine Hp.skp (i := 9) (oi := ⟨some 71, Op.move (Operand.tmp 4), _, _, _, some (7, true)⟩) (fun _ q => q) ?_))
  (first | (refine Hp.tks (i := 10) (oi := ⟨some 72, Op.binOp BinOp.eql 28 (Operand.tmp 70) (Operand.tmp 71) 28, _, _, _, some (7, true)⟩) (fun _ q => q) ?_) | (refine Hp.skp (i := 10) (oi := ⟨some 72, Op.binOp BinOp.eql 28 (Operand.tmp 70) (Operand.tmp 71) 28, _, _, _, some (7, true)⟩) (fun _ q => q) ?_))
  (refine Hp.tks (i := 11) (oi := ⟨some 73, Op.pick (Operand.tmp 69) (Operand.tmp 72) (Operand.const (Value.bool false)), _, _, _, none⟩) (fun _ q => q) ?_)
  (refine Hp.tks (i := 12) (oi := ⟨some 74, Op.move (Operand.tmp 73), _, _, _, none⟩) (fun _ q => q) ?_)
  (first | (refine Hp.tks (i := 13) (oi := ⟨some 75, Op.move (Operand.tmp 8), _, _, _, some (12, true)⟩) (fun _ q => q) ?_) | (refine Hp.skp (i := 13) (oi := ⟨some 75, Op.move (Operand.tmp 8), _, _, _, some (12, true)⟩) (fun _ q => q) ?_))
  (first | (refine Hp.tks (i := 14) (oi := ⟨some 76, Op.call { callee := Callee.builtin Builtin.len, args := #[Operand.tmp 75], argTypes := #[24] }, _, _, _, some (12, true)⟩) (fun _ q => q) ?_) | (refine Hp.skp (i := 14) (oi := ⟨some 76, Op.call { callee := Callee.builtin Builtin.len, args := #[Operand.tmp 75], argTypes := #[24] }, _, _, _, some (12, true)⟩) (fun _ q => q) ?_))
  (first | (refine Hp.tks (i := 15) (oi := ⟨some 77, Op.binOp BinOp.eql 3 (Operand.tmp 76) (Operand.const (Value.int IntKind.i64 2)) 3, _, _, _, some (12, true)⟩) (fun _ q => q) ?_) | (refine Hp.skp (i := 15) (oi := ⟨some 77, Op.binOp BinOp.eql 3 (Operand.tmp 76) (Operand.const (Value.int IntKind.i64 2)) 3, _, _, _, some (12, true)⟩) (fun _ q => q) ?_))
  (refine Hp.tks (i := 16) (oi := ⟨some 78, Op.pick (Operand.tmp 74) (Operand.tmp 77) (Operand.const (Value.bool false)), _, _, _, none⟩) (fun _ q => q) ?_)
  (refine Hp.tks (i := 17) (oi := ⟨some 79, Op.move (Operand.tmp 78), _, _, _, none⟩) (fun _ q => q) ?_)
  (first | (refine Hp.tks (i := 18) (oi := ⟨some 80, Op.move (Operand.tmp 8), _, _, _, some (17, true)⟩) (fun _ q => q) ?_) | (refine Hp.skp (i := 18) (oi := ⟨some 80, Op.move (Operand.tmp 8), _, _, _, some (17, true)⟩) (fun _ q => q) ?_))
  (first | (refine Hp.tks (i := 19) (oi := ⟨some 81, Op.indexAddr 24 (Operand.tmp 80) (Operand.const (Value.int IntKind.i64 1)), _, _, _, some (17, true)⟩) (fun _ q => q) ?_) | (refine Hp.skp (i := 19) (oi := ⟨some 81, Op.indexAddr 24 (Operand.tmp 80) (Operand.const (Value.int IntKind.i64 1)), _, _, _, some (17, true)⟩) (fun _ q => q) ?_))
  (first | (refine Hp.tks (i := 20) (oi := ⟨some 82, Op.fieldAddr 47 (Operand.tmp 81) 0, _, _, _, some (17, true)⟩) (fun _ q => q) ?_) | (refine Hp.skp (i := 20) (oi := ⟨some 82, Op.fieldAddr 47 (Operand.tmp 81) 0, _, _, _, some (17, true)⟩) (fun _ q => q) ?_))
  (first | (refine Hp.tk (i := 21) (oi := ⟨some 83, Op.load 25 (Operand.tmp 82), _, _, _, some (17, true)⟩) _ (fun _ q => q) (fun W hW => by (have F := Hp.Sh.facts hW); (have hd := Hp.Sh.data hW); (try simp only [Hp.Facts, Hp.CellsAt, BatP.cellsAt_bt, Nat.reduceAdd, Hp.c1, Hp.c2] at F); have hc8 := ChnP.seq8 hd.2.2.2.2.1; go_simp; (try with_reducible rfl)) ?_) | (refine Hp.skp (i := 21) (oi := ⟨some 83, Op.load 25 (Operand.tmp 82), _, _, _, some (17, true)⟩) (fun _ q => q) ?_))
  (first | (refine Hp.tks (i := 22) (oi := ⟨some 84, Op.binOp BinOp.eql 25 (Operand.tmp 83) (Operand.const (Value.int IntKind.u64 8)) 25, _, _, _, some (17, true)⟩) (fun _ q => q) ?_) | (refine Hp.skp (i := 22) (oi := ⟨some 84, Op.binOp BinOp.eql 25 (Operand.tmp 83) (Operand.const (Value.int IntKind.u64 8)) 25, _, _, _, some (17, true)⟩) (fun _ q => q) ?_))
  (refine Hp.tks (i := 23) (oi := ⟨some 85, Op.pick (Operand.tmp 79) (Operand.tmp 84) (Operand.const (Value.bool false)), _, _, _, none⟩) (fun _ q => q) ?_)
  (refine Hp.tks (i := 24) (oi := ⟨some 86, Op.move (Operand.tmp 85), _, _, _, none⟩) (fun _ q => q) ?_)
  (first | (refine Hp.tk (i := 25) (oi := ⟨some 87, Op.load 23 (Operand.tmp 9), _, _, _, some (24, true)⟩) _ (fun _ q => q) (fun W hW => (Hp.bexec_load 1 hW rfl rfl (by kernel_rfl) (BatP.dg_size HDL.out))) ?_) | (refine Hp.skp (i := 25) (oi := ⟨some 87, Op.load 23 (Operand.tmp 9), _, _, _, some (24, true)⟩) (fun _ q => q) ?_))
  (first | (refine Hp.tks (i := 26) (oi := ⟨some 88, Op.move (Operand.tmp 6), _, _, _, some (24, true)⟩) (fun _ q => q) ?_) | (refine Hp.skp (i := 26) (oi := ⟨some 88, Op.move (Operand.tmp 6), _, _, _, some (24, true)⟩) (fun _ q => q) ?_))
  (first | (refine Hp.cl (i := 27) (oi := ⟨some 89, Op.call { callee := Callee.value (Operand.func 21), args := #[Operand.tmp 88], argTypes := #[9] }, _, _, _, some (24, true)⟩) _ _ _ (fun _ q => q) (fun W hW => by go_simp) (fun W hW => (K6.out W hW.data.2.2.2.2.2.2.2.2.2.2)) ?_) | (refine Hp.skp (i := 27) (oi := ⟨some 89, Op.call { callee := Callee.value (Operand.func 21), args := #[Operand.tmp 88], argTypes := #[9] }, _, _, _, some (24, true)⟩) (fun _ q => q) ?_))
  (first | (refine Hp.tks (i := 28) (oi := ⟨some 90, Op.binOp BinOp.eql 23 (Operand.tmp 87) (Operand.tmp 89) 23, _, _, _, some (24, true)⟩) (fun _ q => q) ?_) | (refine Hp.skp (i := 28) (oi := ⟨some 90, Op.binOp BinOp.eql 23 (Operand.tmp 87) (Operand.tmp 89) 23, _, _, _, some (24, true)⟩) (fun _ q => q) ?_))
  (refine Hp.tks (i := 29) (oi := ⟨some 91, Op.pick (Operand.tmp 86) (Operand.tmp 90) (Operand.const (Value.bool false)), _, _, _, none⟩) (fun _ q => q) ?_)
  (refine Hp.tks (i := 30) (oi := ⟨some 92, Op.move (Operand.tmp 91), _, _, _, none⟩) (fun _ q => q) ?_)
  (first | (refine Hp.tks (i := 31) (oi := ⟨some 93, Op.move (Operand.tmp 13), _, _, _, some (30, true)⟩) (fun _ q => q) ?_) | (refine Hp.skp (i := 31) (oi := ⟨some 93, Op.move (Operand.tmp 13), _, _, _, some (30, true)⟩) (fun _ q => q) ?_))
  (first | (refine Hp.tks (i := 32) (oi := ⟨some 94, Op.binOp BinOp.eql 28 (Operand.tmp 93) (Operand.const (Value.int IntKind.i64 11)) 28, _, _, _, some (30, true)⟩) (fun _ q => q) ?_) | (refine Hp.skp (i := 32) (oi := ⟨some 94, Op.binOp BinOp.eql 28 (Operand.tmp 93) (Operand.const (Value.int IntKind.i64 11)) 28, _, _, _, some (30, true)⟩) (fun _ q => q) ?_))
  (refine Hp.tks (i := 33) (oi := ⟨some 95, Op.pick (Operand.tmp 92) (Operand.tmp 94) (Operand.const (Value.bool false)), _, _, _, none⟩) (fun _ q => q) ?_)
  (refine Hp.tks (i := 34) (oi := ⟨some 96, Op.move (Operand.tmp 95), _, _, _, none⟩) (fun _ q => q) ?_)
  (first | (refine Hp.tks (i := 35) (oi := ⟨some 97, Op.move (Operand.tmp 14), _, _, _, some (34, true)⟩) (fun _ q => q) ?_) | (refine Hp.skp (i := 35) (oi := ⟨some 97, Op.move (Operand.tmp 14), _, _, _, some (34, true)⟩) (fun _ q => q) ?_))
  (first | (refine Hp.tks (i := 36) (oi := ⟨some 98, Op.move (Operand.tmp 6), _, _, _, some (34, true)⟩) (fun _ q => q) ?_) | (refine Hp.skp (i := 36) (oi := ⟨some 98, Op.move (Operand.tmp 6), _, _, _, some (34, true)⟩) (fun _ q => q) ?_))
  (first | (refine Hp.tks (i := 37) (oi := ⟨some 99, Op.binOp BinOp.eql 9 (Operand.tmp 97) (Operand.tmp 98) 9, _, _, _, some (34, true)⟩) (fun _ q => q) ?_) | (refine Hp.skp (i := 37) (oi := ⟨some 99, Op.binOp BinOp.eql 9 (Operand.tmp 97) (Operand.tmp 98) 9, _, _, _, some (34, true)⟩) (fun _ q => q) ?_))
  (refine Hp.tks (i := 38) (oi := ⟨some 100, Op.pick (Operand.tmp 96) (Operand.tmp 99) (Operand.const (Value.bool false)), _, _, _, none⟩) (fun _ q => q) ?_)
  (refine Hp.tks (i := 39) (oi := ⟨some 101, Op.move (Operand.tmp 100), _, _, _, none⟩) (fun _ q => q) ?_)
  (first | (refine Hp.tks (i := 40) (oi := ⟨some 102, Op.move (Operand.tmp 15), _, _, _, some (39, true)⟩) (fun _ q => q) ?_) | (refine Hp.skp (i := 40) (oi := ⟨some 102, Op.move (Operand.tmp 15), _, _, _, some (39, true)⟩) (fun _ q => q) ?_))
  (first | (refine Hp.tks (i := 41) (oi := ⟨some 103, Op.move (Operand.tmp 3), _, _, _, some (39, true)⟩) (fun _ q => q) ?_) | (refine Hp.skp (i := 41) (oi := ⟨some 103, Op.move (Operand.tmp 3), _, _, _, some (39, true)⟩) (fun _ q => q) ?_))
  (first | (refine Hp.tks (i := 42) (oi := ⟨some 104, Op.binOp BinOp.eql 9 (Operand.tmp 102) (Operand.tmp 103) 9, _, _, _, some (39, true)⟩) (fun _ q => q) ?_) | (refine Hp.skp (i := 42) (oi := ⟨some 104, Op.binOp BinOp.eql 9 (Operand.tmp 102) (Operand.tmp 103) 9, _, _, _, some (39, true)⟩) (fun _ q => q) ?_))
  (refine Hp.tks (i := 43) (oi := ⟨some 105, Op.pick (Operand.tmp 101) (Operand.tmp 104) (Operand.const (Value.bool false)), _, _, _, none⟩) (fun _ q => q) ?_)
  (refine Hp.tks (i := 44) (oi := ⟨some 106, Op.move (Operand.tmp 105), _, _, _, none⟩) (fun _ q => q) ?_)
  (first | (refine Hp.tks (i := 45) (oi := ⟨some 107, Op.move (Operand.tmp 16), _, _, _, some (44, true)⟩) (fun _ q => q) ?_) | (refine Hp.skp (i := 45) (oi := ⟨some 107, Op.move (Operand.tmp 16), _, _, _, some (44, true)⟩) (fun _ q => q) ?_))
  (first | (refine Hp.tks (i := 46) (oi := ⟨some 108, Op.unOp UnOp.not 4 (Operand.tmp 107), _, _, _, some (44, true)⟩) (fun _ q => q) ?_) | (refine Hp.skp (i := 46) (oi := ⟨some 108, Op.unOp UnOp.not 4 (Operand.tmp 107), _, _, _, some (44, true)⟩) (fun _ q => q) ?_))
  (refine Hp.tks (i := 47) (oi := ⟨some 109, Op.pick (Operand.tmp 106) (Operand.tmp 108) (Operand.const (Value.bool false)), _, _, _, none⟩) (fun _ q => q) ?_)
  (refine Hp.tks (i := 48) (oi := ⟨some 0, Op.assign (Operand.tmp 109), _, _, _, none⟩) (fun _ q => q) ?_)
  refine Hp.soft_done (by kernel_rfl) (fun w1 sh => ?_) _; (try clear F); (try have F := Hp.Sh.facts sh); (try simp only [Hp.Facts, Hp.CellsAt, BatP.cellsAt_bt, Nat.reduceAdd, Hp.c1, Hp.c2] at F)
  go_wp2_with (first
      | ((with_reducible first | refine Hp.wpl_box sh ?_ ?_ | refine Hp.wpa sh ?_ ?_ | refine Hp.atl_store ?_ ?_); exact rfl; (try (refine Hp.wsB sh ?_)); clear sh; (try clear F); go_simp; (first | intro b w1 sh | intro w1 sh); have F := sh.fxb)
      | fail)
  go_ret
  exact ⟨by first | rfl | simp, sh.below⟩

end Go.Proofs.YtfcffglgkblidaaDoor
