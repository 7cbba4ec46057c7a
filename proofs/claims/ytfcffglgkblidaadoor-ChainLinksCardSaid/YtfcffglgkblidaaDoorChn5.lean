
/-
  The walks of the reference's Link and of ChainLinks.
-/
import Derived.Test.YtfcffglgkblidaaDoorChn4
import Derived.Test.YtfcffglgkblidaaDoorBat16
namespace Go.Proofs.YtfcffglgkblidaaDoor
open Go.RowKit
set_option linter.unusedVariables false
set_option linter.unusedSimpArgs false
namespace Hp
theorem at_bu {P : Program} {dst : Option Tmp} {ty : TypeId} {pos : String} {af : Array Edge} {gd : Option (Nat × Bool)} {a : Act} {w : World} {Q : Exit → Act → World → Prop} (T : TypeId) {ops : Array Oper} {rest : List Oper} {ps : Array (Nat × Operand)} (h : wpList P ops Q (⟨dst, .build T ps, ty, pos, af, gd⟩ :: rest) a w) : wpList P ops Q (⟨dst, .build T ps, ty, pos, af, gd⟩ :: rest) a w := h
end Hp
namespace ChnP
def rlinkV (p : Bs) (l : List Ev) (s : Option Addr) (n c : Nat) : Value :=
  if BatP.isB (firstOf l, l, p) = true then .tuple #[.agg (BatP.btA (firstOf l) (.slice s n c) p), .string (bstr (BatP.outL (firstOf l, l, p))), .int .i64 0]
  else .tuple #[.agg (BatP.btA 0 (.slice none 0 0) BatP.zeros), .string (bstr []), .int .i64 1]
theorem rlink_yes {p : Bs} {l : List Ev} {s : Option Addr} {n c : Nat} (h : BatP.isB (firstOf l, l, p) = true) : rlinkV p l s n c = .tuple #[.agg (BatP.btA (firstOf l) (.slice s n c) p), .string (bstr (BatP.outL (firstOf l, l, p))), .int .i64 0] := if_pos h
theorem rlink_no {p : Bs} {l : List Ev} {s : Option Addr} {n c : Nat} (h : BatP.isB (firstOf l, l, p) = false) : rlinkV p l s n c = .tuple #[.agg (BatP.btA 0 (.slice none 0 0) BatP.zeros), .string (bstr []), .int .i64 1] := if_neg (by rw [h]; simp)
end ChnP

set_option maxHeartbeats 4000000 in
set_option maxRecDepth 100000 in
theorem crlink (p : List UInt8) (hp : p.length = 32) (s : Option Addr) (n c : Nat) (l : List EvP.Ev) (hn : n = l.length) (hnc : n ≤ c) (hcm : c ≤ maxLen) (hnone : s = none → n = 0 ∧ c = 0) (hm : n ≤ 100000) (hE : ∀ x ∈ l, EvP.EvB x) (w : World) (hR : Hp.RdV w s (l.flatMap EvP.evc)) :
    Calls Tryd.prog 10 #[.agg (BatP.bA p), .slice s n c] w fun e w' => e = .returned (ChnP.rlinkV p l s n c) ∧ Below w.heap.size w w' := by
  have sh := (Hp.Sh.start (RdV_rob hR) : Hp.Sh w w [] (fun W => Hp.RdV W s (l.flatMap EvP.evc)))
  have hfi := ChnP.firstOf_in (fun x hx => (hE x hx).1)
  have K2 := Lib.hid (fun W r => brput (ChnP.firstOf l) s n c l p hp hfi hn hnc (by omega) hE W r)
  have HPL := Lib.hid hp
  have HQ := Lib.hid (show p.length = BatP.zeros.length from hp)
  have HLN := Lib.hid hn.symm
  have HF0 := Lib.hid (fun (h : 0 < n) W pp (r : Hp.RdV W (some pp) (l.flatMap EvP.evc)) => ChnP.first_cell r (by omega))
  have HFZ := Lib.hid (show n = 0 → ChnP.firstOf l = 0 from fun h => by
    have : l = [] := List.length_eq_zero_iff.1 (by omega)
    rw [this]; rfl)
  have HPP := Lib.hid (fun (h : 0 < n) => (show ∃ pp, s = some pp by
    obtain ⟨pp, hpp, -⟩ := hR (Hp.flat_pos EvP.evc_len (by decide) (k := 0) (by omega))
    exact ⟨pp, hpp⟩))
  clear hp hn hE hR hcm hnone
  cases hb : BatP.isB (ChnP.firstOf l, l, p) with
  | false =>
    rw [BatP.putB_no hb] at K2
    have HX := Lib.hid (ChnP.rlink_no (s := s) (n := n) (c := c) hb)
    clear hb
    by_cases c0 : 0 < n
    · obtain ⟨pp, rfl⟩ := HPP.out c0
      have c0I : (0 : Int) < (n : Int) := by omega
      have HC0 := Lib.hid (HF0.out c0)
      generalize ChnP.firstOf l = f at K2 HF0 HFZ HC0 hfi
      go_enter Tryd.func10, Tryd.ntmps10
      have F := sh.fxb
      have tok_b2 : True := trivial
      have tok_b4 : True := trivial
      have tok_b7 : True := trivial
      go_wp2_with (first
          | ((with_reducible refine Hp.at_st 27 ?_ ?_); (rotate_left; exact rfl); (refine Hp.bst_all 0 sh rfl rfl rfl HQ.out (BatP.bt_size' rfl) ?_); clear sh; (try clear F); go_simp; intro w1 sh; (have F := sh.fxb); have q0 := HC0.out _ pp sh.data)
          | ((with_reducible refine Hp.at_ld 23 ?_); (first | refine Hp.bld_g 0 sh rfl rfl rfl (by kernel_rfl) (BatP.dg_size HPL.out) ?_ | refine Hp.bld_g 1 sh rfl rfl rfl (by kernel_rfl) (BatP.dg_size HPL.out) ?_ | refine Hp.bld_g 2 sh rfl rfl rfl (by kernel_rfl) (BatP.dg_size HPL.out) ?_); (try simp only [Act.put, Hp.p1, Hp.p2, Hp.p3]))
          | ((with_reducible refine Hp.at_bu 27 ?_); (refine Hp.atl_build 27 rfl (u := .agg (BatP.bA p)) (v := .slice _ _ _) rfl rfl (bld_bt2 _ _ _ p HPL.out _) ?_); (try simp only [Act.put, Hp.p1, Hp.p2, Hp.p3]))
          | ((with_reducible refine Hp.at_st 25 ?_ ?_); (rotate_left; exact rfl); (refine Hp.bst_first 0 sh rfl rfl rfl (by kernel_rfl) ?_); clear sh; (try clear F); go_simp; intro w1 sh; (have F := sh.fxb))
          | ((with_reducible refine Hp.at_ld 27 ?_); (refine Hp.bld_g 0 sh rfl rfl rfl (by kernel_rfl) (BatP.bt_size HPL.out) ?_); go_simp)
          | ((with_reducible first | refine Hp.wpl_box sh ?_ ?_ | refine Hp.wpa sh ?_ ?_ | refine Hp.atl_store ?_ ?_); exact rfl; (try (refine Hp.wsB sh ?_)); clear sh; (try clear F); go_simp; (first | (have tok := tok_b2; clear tok tok_b2; intro b2 w1 sh) | (have tok := tok_b4; clear tok tok_b4; intro b4 w1 sh) | (have tok := tok_b7; clear tok tok_b7; intro b7 w1 sh) | intro b w1 sh | intro w1 sh); have F := sh.fxb)
          | fail)
      go_fit (K2.out _ sh.data)
      rintro e w1 ⟨rfl, hb⟩
      replace sh := sh.call hb; clear hb; (try clear F); have F := sh.fxb
      go_wp2_with (first
          | ((with_reducible refine Hp.at_st 27 ?_ ?_); (rotate_left; exact rfl); (refine Hp.bst_all (g := 0) (s := none) (n := 0) (c := 0) (q := BatP.zeros) 1 sh rfl rfl rfl rfl (BatP.bt_size' rfl) ?_); clear sh; (try clear F); go_simp; intro w1 sh; (have F := sh.fxb))
          | ((with_reducible first | refine Hp.wpl_box sh ?_ ?_ | refine Hp.wpa sh ?_ ?_ | refine Hp.atl_store ?_ ?_); exact rfl; (try (refine Hp.wsB sh ?_)); clear sh; (try clear F); go_simp; (first | intro b w1 sh | intro w1 sh); have F := sh.fxb)
          | fail)
      exact bodyPost_ret (Hp.res_ctt rfl rfl (sh.load 1 rfl (by kernel_rfl) (BatP.bt_size rfl))) rfl ⟨by rw [HX.out]; rfl, sh.below⟩
    · obtain rfl : n = 0 := by omega
      obtain hfz := HFZ.out rfl
      rw [hfz] at K2
      go_enter Tryd.func10, Tryd.ntmps10
      have F := sh.fxb
      have tok_b2 : True := trivial
      have tok_b4 : True := trivial
      have tok_b7 : True := trivial
      go_wp2_with (first
          | ((with_reducible refine Hp.at_st 27 ?_ ?_); (rotate_left; exact rfl); (refine Hp.bst_all 0 sh rfl rfl rfl HQ.out (BatP.bt_size' rfl) ?_); clear sh; (try clear F); go_simp; intro w1 sh; (have F := sh.fxb))
          | ((with_reducible refine Hp.at_ld 23 ?_); (first | refine Hp.bld_g 0 sh rfl rfl rfl (by kernel_rfl) (BatP.dg_size HPL.out) ?_ | refine Hp.bld_g 1 sh rfl rfl rfl (by kernel_rfl) (BatP.dg_size HPL.out) ?_ | refine Hp.bld_g 2 sh rfl rfl rfl (by kernel_rfl) (BatP.dg_size HPL.out) ?_); (try simp only [Act.put, Hp.p1, Hp.p2, Hp.p3]))
          | ((with_reducible refine Hp.at_bu 27 ?_); (refine Hp.atl_build 27 rfl (u := .agg (BatP.bA p)) (v := .slice _ _ _) rfl rfl (bld_bt2 _ _ _ p HPL.out _) ?_); (try simp only [Act.put, Hp.p1, Hp.p2, Hp.p3]))
          | ((with_reducible refine Hp.at_st 25 ?_ ?_); (rotate_left; exact rfl); (refine Hp.bst_first 0 sh rfl rfl rfl (by kernel_rfl) ?_); clear sh; (try clear F); go_simp; intro w1 sh; (have F := sh.fxb))
          | ((with_reducible refine Hp.at_ld 27 ?_); (refine Hp.bld_g 0 sh rfl rfl rfl (by kernel_rfl) (BatP.bt_size HPL.out) ?_); go_simp)
          | ((with_reducible first | refine Hp.wpl_box sh ?_ ?_ | refine Hp.wpa sh ?_ ?_ | refine Hp.atl_store ?_ ?_); exact rfl; (try (refine Hp.wsB sh ?_)); clear sh; (try clear F); go_simp; (first | (have tok := tok_b2; clear tok tok_b2; intro b2 w1 sh) | (have tok := tok_b4; clear tok tok_b4; intro b4 w1 sh) | (have tok := tok_b7; clear tok tok_b7; intro b7 w1 sh) | intro b w1 sh | intro w1 sh); have F := sh.fxb)
          | fail)
      go_fit (K2.out _ sh.data)
      rintro e w1 ⟨rfl, hb⟩
      replace sh := sh.call hb; clear hb; (try clear F); have F := sh.fxb
      go_wp2_with (first
          | ((with_reducible refine Hp.at_st 27 ?_ ?_); (rotate_left; exact rfl); (refine Hp.bst_all (g := 0) (s := none) (n := 0) (c := 0) (q := BatP.zeros) 1 sh rfl rfl rfl rfl (BatP.bt_size' rfl) ?_); clear sh; (try clear F); go_simp; intro w1 sh; (have F := sh.fxb))
          | ((with_reducible first | refine Hp.wpl_box sh ?_ ?_ | refine Hp.wpa sh ?_ ?_ | refine Hp.atl_store ?_ ?_); exact rfl; (try (refine Hp.wsB sh ?_)); clear sh; (try clear F); go_simp; (first | intro b w1 sh | intro w1 sh); have F := sh.fxb)
          | fail)
      exact bodyPost_ret (Hp.res_ctt rfl rfl (sh.load 1 rfl (by kernel_rfl) (BatP.bt_size rfl))) rfl ⟨by rw [HX.out]; rfl, sh.below⟩
  | true =>
    have c0 : 0 < n := by have h9 := (BatP.isB_iff.1 hb).1; have := HLN.out; dsimp only at h9; omega
    rw [BatP.putB_yes hb] at K2
    have HX := Lib.hid (ChnP.rlink_yes (s := s) (n := n) (c := c) hb)
    obtain ⟨pp, rfl⟩ := HPP.out c0
    have c0I : (0 : Int) < (n : Int) := by omega
    have HC0 := Lib.hid (HF0.out c0)
    dsimp only at K2
    clear hb
    generalize BatP.outL (ChnP.firstOf l, l, p) = O at K2 HX
    generalize ChnP.firstOf l = f at K2 HF0 HFZ HC0 hfi HX
    go_enter Tryd.func10, Tryd.ntmps10
    have F := sh.fxb
    have tok_b2 : True := trivial
    have tok_b4 : True := trivial
    have tok_b7 : True := trivial
    go_wp2_with (first
        | ((with_reducible refine Hp.at_st 27 ?_ ?_); (rotate_left; exact rfl); (refine Hp.bst_all 0 sh rfl rfl rfl HQ.out (BatP.bt_size' rfl) ?_); clear sh; (try clear F); go_simp; intro w1 sh; (have F := sh.fxb); have q0 := HC0.out _ pp sh.data)
        | ((with_reducible refine Hp.at_ld 23 ?_); (first | refine Hp.bld_g 0 sh rfl rfl rfl (by kernel_rfl) (BatP.dg_size HPL.out) ?_ | refine Hp.bld_g 1 sh rfl rfl rfl (by kernel_rfl) (BatP.dg_size HPL.out) ?_ | refine Hp.bld_g 2 sh rfl rfl rfl (by kernel_rfl) (BatP.dg_size HPL.out) ?_); (try simp only [Act.put, Hp.p1, Hp.p2, Hp.p3]))
        | ((with_reducible refine Hp.at_bu 27 ?_); (refine Hp.atl_build 27 rfl (u := .agg (BatP.bA p)) (v := .slice _ _ _) rfl rfl (bld_bt2 _ _ _ p HPL.out _) ?_); (try simp only [Act.put, Hp.p1, Hp.p2, Hp.p3]))
        | ((with_reducible refine Hp.at_st 25 ?_ ?_); (rotate_left; exact rfl); (refine Hp.bst_first 0 sh rfl rfl rfl (by kernel_rfl) ?_); clear sh; (try clear F); go_simp; intro w1 sh; (have F := sh.fxb))
        | ((with_reducible refine Hp.at_ld 27 ?_); (refine Hp.bld_g 0 sh rfl rfl rfl (by kernel_rfl) (BatP.bt_size HPL.out) ?_); go_simp)
        | ((with_reducible first | refine Hp.wpl_box sh ?_ ?_ | refine Hp.wpa sh ?_ ?_ | refine Hp.atl_store ?_ ?_); exact rfl; (try (refine Hp.wsB sh ?_)); clear sh; (try clear F); go_simp; (first | (have tok := tok_b2; clear tok tok_b2; intro b2 w1 sh) | (have tok := tok_b4; clear tok tok_b4; intro b4 w1 sh) | (have tok := tok_b7; clear tok tok_b7; intro b7 w1 sh) | intro b w1 sh | intro w1 sh); have F := sh.fxb)
        | fail)
    go_fit (K2.out _ sh.data)
    rintro e w1 ⟨rfl, hb⟩
    replace sh := sh.call hb; clear hb; (try clear F); have F := sh.fxb
    go_wp2_with (first
        | ((with_reducible refine Hp.at_st 27 ?_ ?_); (rotate_left; exact rfl); (refine Hp.bst_all 1 sh rfl rfl rfl HQ.out (BatP.bt_size' rfl) ?_); clear sh; (try clear F); go_simp; intro w1 sh; (have F := sh.fxb))
        | ((with_reducible refine Hp.at_ld 27 ?_); (refine Hp.bld_g 0 sh rfl rfl rfl (by kernel_rfl) (BatP.bt_size HPL.out) ?_); go_simp)
        | ((with_reducible first | refine Hp.wpl_box sh ?_ ?_ | refine Hp.wpa sh ?_ ?_ | refine Hp.atl_store ?_ ?_); exact rfl; (try (refine Hp.wsB sh ?_)); clear sh; (try clear F); go_simp; (first | intro b w1 sh | intro w1 sh); have F := sh.fxb)
        | fail)
    exact bodyPost_ret (Hp.res_ctt rfl rfl (sh.load 1 rfl (by kernel_rfl) (BatP.bt_size HPL.out))) rfl ⟨by rw [HX.out]; rfl, sh.below⟩

set_option maxHeartbeats 4000000 in
set_option maxRecDepth 100000 in
theorem chainLinks_walk (p : List UInt8) (hp : p.length = 32) (s : Option Addr) (n c : Nat) (l : List EvP.Ev) (hn : n = l.length) (hnc : n ≤ c) (hcm : c ≤ maxLen) (hnone : s = none → n = 0 ∧ c = 0) (hE : ∀ x ∈ l, EvP.EvB x) (w : World) (hR : Hp.RdV w s (l.flatMap EvP.evc)) (hG : Hp.RdV w (some ⟨0, 0, none⟩) (DigP.wds DigP.consts)) :
    Calls Tryd.prog 3 #[.agg (BatP.bA p), .slice s n c] w fun e w' => e = .returned (.bool true) ∧ Below w.heap.size w w' := by
  have sh := (Hp.Sh.start ((RdV_rob hR).and (RdV_rob hG)) : Hp.Sh w w [] (fun W => Hp.RdV W s (l.flatMap EvP.evc) ∧ Hp.RdV W (some ⟨0, 0, none⟩) (DigP.wds DigP.consts)))
  clear hR hG
  by_cases c1 : 300 < n
  · have c1I : (300 : Int) < (n : Int) := by omega
    go_enter Tryd.func3, Tryd.ntmps3
    have F := sh.fxb
    go_wp2_with (first
        | ((with_reducible first | refine Hp.wpl_box sh ?_ ?_ | refine Hp.wpa sh ?_ ?_ | refine Hp.atl_store ?_ ?_); exact rfl; (try (refine Hp.wsB sh ?_)); clear sh; (try clear F); go_simp; (first | intro b w1 sh | intro w1 sh); have F := sh.fxb)
        | fail)
    go_ret
    exact ⟨rfl, sh.below⟩
  have c1I : ¬ (300 : Int) < (n : Int) := by omega
  have K0 := Lib.hid (fun W g => clinked W g)
  have K1 := Lib.hid (fun W q => clink p hp s n c l hn hnc hcm hnone (by omega) hE W q)
  have K2 := Lib.hid (fun W q => crlink p hp s n c l hn hnc hcm hnone (by omega) hE W q)
  have HPL := Lib.hid hp
  have HQ := Lib.hid (show p.length = BatP.zeros.length from hp)
  unfold ChnP.LinkP at K1
  cases hb : BatP.isB (ChnP.firstOf l, l, p) with
  | false =>
    rw [ChnP.link_no hb] at K1
    rw [ChnP.rlink_no hb] at K2
    unfold BatP.zeroB at K1
    dsimp only [List.length_nil] at K1
    have K3 := Lib.hid (fun s1 s2 c1 c2 W q q2 => bsame 0 s1 s2 0 c1 c2 [] BatP.zeros rfl rfl (by decide) W q q2)
    have d1 := ChnP.bstr_same []
    clear hp hn hnc hcm hnone hE hb
    go_enter Tryd.func3, Tryd.ntmps3
    have F := sh.fxb
    have tok_b2 : True := trivial
    go_wp2_with (first
        | ((with_reducible refine Hp.at_ld 23 ?_); (first | refine Hp.bld_g 0 sh rfl rfl rfl (by kernel_rfl) (BatP.dg_size HPL.out) ?_ | refine Hp.bld_g 1 sh rfl rfl rfl (by kernel_rfl) (BatP.dg_size HPL.out) ?_ | refine Hp.bld_g 2 sh rfl rfl rfl (by kernel_rfl) (BatP.dg_size HPL.out) ?_); (try simp only [Act.put, Hp.p1, Hp.p2, Hp.p3]))
        | ((with_reducible first | refine Hp.wpl_box sh ?_ ?_ | refine Hp.wpa sh ?_ ?_ | refine Hp.atl_store ?_ ?_); exact rfl; (try (refine Hp.wsB sh ?_)); clear sh; (try clear F); go_simp; (first | (have tok := tok_b2; clear tok tok_b2; intro b2 w1 sh) | intro b w1 sh | intro w1 sh); have F := sh.fxb)
        | fail)
    go_fit (K1.out _ sh.data.1)
    rintro e w1 ⟨s1, k1, rfl, hn9, hr9, hb9, hk1, -⟩
    replace sh := Hp.gain sh hb9 hn9 hr9
    clear hn9 hr9 hb9
    (try clear F); (have F := sh.fxb)
    have tok_b5 : True := trivial
    go_wp2_with (first
        | ((with_reducible refine Hp.at_st 27 ?_ ?_); (rotate_left; exact rfl); (refine Hp.bst_all 0 sh rfl rfl rfl rfl (BatP.bt_size' rfl) ?_); clear sh; (try clear F); go_simp; intro w1 sh; (have F := sh.fxb))
        | ((with_reducible refine Hp.at_ld 23 ?_); (first | refine Hp.bld_g 0 sh rfl rfl rfl (by kernel_rfl) (BatP.dg_size HPL.out) ?_ | refine Hp.bld_g 1 sh rfl rfl rfl (by kernel_rfl) (BatP.dg_size HPL.out) ?_ | refine Hp.bld_g 2 sh rfl rfl rfl (by kernel_rfl) (BatP.dg_size HPL.out) ?_); (try simp only [Act.put, Hp.p1, Hp.p2, Hp.p3]))
        | ((with_reducible first | refine Hp.wpl_box sh ?_ ?_ | refine Hp.wpa sh ?_ ?_ | refine Hp.atl_store ?_ ?_); exact rfl; (try (refine Hp.wsB sh ?_)); clear sh; (try clear F); go_simp; (first | (have tok := tok_b5; clear tok tok_b5; intro b5 w1 sh) | intro b w1 sh | intro w1 sh); have F := sh.fxb)
        | fail)
    go_fit (K2.out _ sh.data.2.1)
    rintro e w1 ⟨rfl, hb⟩
    replace sh := sh.call hb; clear hb; (try clear F); have F := sh.fxb
    have tok_b8 : True := trivial
    go_wp2_with (first
        | ((with_reducible refine Hp.at_st 27 ?_ ?_); (rotate_left; exact rfl); (refine Hp.bst_all 0 sh rfl rfl rfl rfl (BatP.bt_size' rfl) ?_); clear sh; (try clear F); go_simp; intro w1 sh; (have F := sh.fxb))
        | ((with_reducible first | refine Hp.wpl_box sh ?_ ?_ | refine Hp.wpa sh ?_ ?_ | refine Hp.atl_store ?_ ?_); exact rfl; (try (refine Hp.wsB sh ?_)); clear sh; (try clear F); go_simp; (first | (have tok := tok_b8; clear tok tok_b8; intro b8 w1 sh) | intro b w1 sh | intro w1 sh); have F := sh.fxb)
        | fail)
    go_fit (K0.out _ sh.data.2.2)
    rintro e w1 ⟨rfl, hb⟩
    replace sh := sh.call hb; clear hb; (try clear F); have F := sh.fxb
    go_wp2_with (first
        | ((with_reducible refine Hp.at_ld 27 ?_); (first | refine Hp.bld_g 0 sh rfl rfl rfl (by kernel_rfl) (BatP.bt_size rfl) ?_ | refine Hp.bld_g 1 sh rfl rfl rfl (by kernel_rfl) (BatP.bt_size rfl) ?_ | refine Hp.bld_g 2 sh rfl rfl rfl (by kernel_rfl) (BatP.bt_size rfl) ?_); go_simp)
        | ((with_reducible first | refine Hp.wpl_box sh ?_ ?_ | refine Hp.wpa sh ?_ ?_ | refine Hp.atl_store ?_ ?_); exact rfl; (try (refine Hp.wsB sh ?_)); clear sh; (try clear F); go_simp; (first | intro b w1 sh | intro w1 sh); have F := sh.fxb)
        | fail)
    go_fit (K3.out s1 none k1 0 _ sh.data.1 (Hp.RdV.nil _ _))
    rintro e w1 ⟨rfl, hb⟩
    replace sh := sh.call hb; clear hb; (try clear F); have F := sh.fxb
    go_wp2_with (first
        | ((with_reducible first | refine Hp.wpl_box sh ?_ ?_ | refine Hp.wpa sh ?_ ?_ | refine Hp.atl_store ?_ ?_); exact rfl; (try (refine Hp.wsB sh ?_)); clear sh; (try clear F); go_simp; (first | intro b w1 sh | intro w1 sh); have F := sh.fxb)
        | fail)
    go_ret
    exact ⟨by first | rfl | simp, sh.below⟩
  | true =>
    rw [ChnP.link_yes hb] at K1
    rw [ChnP.rlink_yes hb] at K2
    dsimp only at K1
    rw [← hn] at K1
    have K3 := Lib.hid (fun s1 s2 c1 c2 W q q2 => bsame (ChnP.firstOf l) s1 s2 n c1 c2 l p hp hn (by omega) W q q2)
    have d1 := ChnP.bstr_same (BatP.outL (ChnP.firstOf l, l, p))
    generalize BatP.outL (ChnP.firstOf l, l, p) = O at K1 K2 d1
    generalize ChnP.firstOf l = f at K1 K2 K3
    clear hp hn hnc hcm hnone hE hb
    go_enter Tryd.func3, Tryd.ntmps3
    have F := sh.fxb
    have tok_b2 : True := trivial
    go_wp2_with (first
        | ((with_reducible refine Hp.at_ld 23 ?_); (first | refine Hp.bld_g 0 sh rfl rfl rfl (by kernel_rfl) (BatP.dg_size HPL.out) ?_ | refine Hp.bld_g 1 sh rfl rfl rfl (by kernel_rfl) (BatP.dg_size HPL.out) ?_ | refine Hp.bld_g 2 sh rfl rfl rfl (by kernel_rfl) (BatP.dg_size HPL.out) ?_); (try simp only [Act.put, Hp.p1, Hp.p2, Hp.p3]))
        | ((with_reducible first | refine Hp.wpl_box sh ?_ ?_ | refine Hp.wpa sh ?_ ?_ | refine Hp.atl_store ?_ ?_); exact rfl; (try (refine Hp.wsB sh ?_)); clear sh; (try clear F); go_simp; (first | (have tok := tok_b2; clear tok tok_b2; intro b2 w1 sh) | intro b w1 sh | intro w1 sh); have F := sh.fxb)
        | fail)
    go_fit (K1.out _ sh.data.1)
    rintro e w1 ⟨s1, k1, rfl, hn9, hr9, hb9, hk1, -⟩
    replace sh := Hp.gain sh hb9 hn9 hr9
    clear hn9 hr9 hb9
    (try clear F); (have F := sh.fxb)
    have tok_b5 : True := trivial
    go_wp2_with (first
        | ((with_reducible refine Hp.at_st 27 ?_ ?_); (rotate_left; exact rfl); (refine Hp.bst_all 0 sh rfl rfl rfl HQ.out (BatP.bt_size' rfl) ?_); clear sh; (try clear F); go_simp; intro w1 sh; (have F := sh.fxb))
        | ((with_reducible refine Hp.at_ld 23 ?_); (first | refine Hp.bld_g 0 sh rfl rfl rfl (by kernel_rfl) (BatP.dg_size HPL.out) ?_ | refine Hp.bld_g 1 sh rfl rfl rfl (by kernel_rfl) (BatP.dg_size HPL.out) ?_ | refine Hp.bld_g 2 sh rfl rfl rfl (by kernel_rfl) (BatP.dg_size HPL.out) ?_); (try simp only [Act.put, Hp.p1, Hp.p2, Hp.p3]))
        | ((with_reducible first | refine Hp.wpl_box sh ?_ ?_ | refine Hp.wpa sh ?_ ?_ | refine Hp.atl_store ?_ ?_); exact rfl; (try (refine Hp.wsB sh ?_)); clear sh; (try clear F); go_simp; (first | (have tok := tok_b5; clear tok tok_b5; intro b5 w1 sh) | intro b w1 sh | intro w1 sh); have F := sh.fxb)
        | fail)
    go_fit (K2.out _ sh.data.2.1)
    rintro e w1 ⟨rfl, hb⟩
    replace sh := sh.call hb; clear hb; (try clear F); have F := sh.fxb
    have tok_b8 : True := trivial
    go_wp2_with (first
        | ((with_reducible refine Hp.at_st 27 ?_ ?_); (rotate_left; exact rfl); (refine Hp.bst_all 0 sh rfl rfl rfl HQ.out (BatP.bt_size' rfl) ?_); clear sh; (try clear F); go_simp; intro w1 sh; (have F := sh.fxb))
        | ((with_reducible first | refine Hp.wpl_box sh ?_ ?_ | refine Hp.wpa sh ?_ ?_ | refine Hp.atl_store ?_ ?_); exact rfl; (try (refine Hp.wsB sh ?_)); clear sh; (try clear F); go_simp; (first | (have tok := tok_b8; clear tok tok_b8; intro b8 w1 sh) | intro b w1 sh | intro w1 sh); have F := sh.fxb)
        | fail)
    go_fit (K0.out _ sh.data.2.2)
    rintro e w1 ⟨rfl, hb⟩
    replace sh := sh.call hb; clear hb; (try clear F); have F := sh.fxb
    go_wp2_with (first
        | ((with_reducible refine Hp.at_ld 27 ?_); (first | refine Hp.bld_g 0 sh rfl rfl rfl (by kernel_rfl) (BatP.bt_size HPL.out) ?_ | refine Hp.bld_g 1 sh rfl rfl rfl (by kernel_rfl) (BatP.bt_size HPL.out) ?_ | refine Hp.bld_g 2 sh rfl rfl rfl (by kernel_rfl) (BatP.bt_size HPL.out) ?_); go_simp)
        | ((with_reducible first | refine Hp.wpl_box sh ?_ ?_ | refine Hp.wpa sh ?_ ?_ | refine Hp.atl_store ?_ ?_); exact rfl; (try (refine Hp.wsB sh ?_)); clear sh; (try clear F); go_simp; (first | intro b w1 sh | intro w1 sh); have F := sh.fxb)
        | fail)
    go_fit (K3.out s1 s k1 c _ sh.data.1 sh.data.2.1)
    rintro e w1 ⟨rfl, hb⟩
    replace sh := sh.call hb; clear hb; (try clear F); have F := sh.fxb
    go_wp2_with (first
        | ((with_reducible first | refine Hp.wpl_box sh ?_ ?_ | refine Hp.wpa sh ?_ ?_ | refine Hp.atl_store ?_ ?_); exact rfl; (try (refine Hp.wsB sh ?_)); clear sh; (try clear F); go_simp; (first | intro b w1 sh | intro w1 sh); have F := sh.fxb)
        | fail)
    go_ret
    exact ⟨by first | rfl | simp, sh.below⟩

end Go.Proofs.YtfcffglgkblidaaDoor