
/-
  The walk of Get.
-/
import Derived.Test.YtfcffglgkblidaaDoorBat6
import Derived.Test.YtfcffglgkblidaaDoorCrcWalks
namespace Go.Proofs.YtfcffglgkblidaaDoor
open Go.RowKit
set_option linter.unusedVariables false
set_option linter.unusedSimpArgs false
namespace BatP
/-- What Get answers. -/
def GetP (X : (Ba × Nat) × Int) (w : World) (e : Ending) (w' : World) : Prop :=
  ∃ s c, e = .returned (.tuple #[.agg (btA X.1.1.1 (.slice s X.1.1.2.1.length c) X.1.1.2.2), .int .i64 (X.1.2 : Int), .int .i64 X.2]) ∧ (∀ p, s = some p → w.heap.size ≤ p.block) ∧ Hp.RdV w' s (X.1.1.2.1.flatMap EvP.evc) ∧ Below w.heap.size w w' ∧ X.1.1.2.1.length ≤ c ∧ c ≤ maxLen
theorem GetP.err {X : (Ba × Nat) × Int} {e : Int} {w w' : World} (h : X = noB e) (hb : Below w.heap.size w w') {en : Ending} (hen : en = .returned (.tuple #[.agg (btA 0 (.slice none 0 0) zeros), .int .i64 0, .int .i64 e])) : GetP X w en w' := by
  subst h
  exact ⟨none, 0, hen, (fun p h => by cases h), Hp.RdV.nil _ _, hb, Nat.le_refl _, Nat.zero_le _⟩
theorem GetP.mk {X : (Ba × Nat) × Int} {b : Ba} {n : Nat} {w w' : World} {s : Option Addr} {c nl : Nat} (h : X = ((b, n), 0)) (hn : b.2.1.length = nl) (hb : Below w.heap.size w w') (hf : ∀ p, s = some p → w.heap.size ≤ p.block) (hR : Hp.RdV w' s (b.2.1.flatMap EvP.evc)) (h1 : nl ≤ c) (h2 : c ≤ maxLen) {en : Ending} (hen : en = .returned (.tuple #[.agg (btA b.1 (.slice s nl c) b.2.2), .int .i64 (n : Int), .int .i64 0])) : GetP X w en w' := by
  subst h hn
  exact ⟨s, c, hen, hf, hR, hb, h1, h2⟩
theorem fix_yes {l : List UInt8} (h : 4 ≤ l.length) : WireP.fixV l 4 = .tuple #[.int .u64 (WireP.numOf (l.take 4)), .string (bstr (l.drop 4)), .int .i64 0] := by unfold WireP.fixV; rw [if_neg (by omega)]
theorem fix_no {l : List UInt8} (h : l.length < 4) : WireP.fixV l 4 = .tuple #[.int .u64 0, .string (bstr []), .int .i64 4] := by unfold WireP.fixV; rw [if_pos h]
theorem num4 {l : List UInt8} : WireP.numOf (l.take 4) < 4294967296 := by
  have h := WireP.numOf_lt (l.take 4)
  have h2 : (256 : Nat) ^ (l.take 4).length ≤ 256 ^ 4 := Nat.pow_le_pow_right (by decide) (by rw [List.length_take]; omega)
  have h3 : (256 : Nat) ^ 4 = 4294967296 := by decide
  omega
theorem len_cons (c : UInt8) (l : List UInt8) : lenOf (c :: l) = WireP.numOf (l.take 4) := rfl
end BatP

set_option maxHeartbeats 2000000 in
set_option maxRecDepth 100000 in
theorem bget_nil (w : World) : Calls Tryd.prog 26 #[.string (bstr [])] w fun e w' => BatP.GetP (BatP.getB []) w e w' := by
  have sh := (Hp.Sh.start (fun _ _ => trivial) : Hp.Sh w w [] (fun _ => True))
  have n1 : (bstr []).toList.isEmpty = true := by rw [bstr_toList]; rfl
  have HX := Lib.hid (show BatP.getB [] = BatP.noB 4 from rfl)
  go_enter Tryd.func26, Tryd.ntmps26
  have F := sh.fxb
  have tok_b2 : True := trivial
  go_wp2_with (first
      | ((with_reducible refine Hp.at_st 27 ?_ ?_); (rotate_left; exact rfl); (refine Hp.bst_all (g := 0) (s := none) (n := 0) (c := 0) (q := BatP.zeros) 0 sh rfl rfl rfl rfl (BatP.bt_size' rfl) ?_); clear sh; (try clear F); go_simp; intro w1 sh; (have F := sh.fxb))
      | ((with_reducible first | refine Hp.wpl_box sh ?_ ?_ | refine Hp.wpa sh ?_ ?_ | refine Hp.atl_store ?_ ?_); exact rfl; (try (refine Hp.wsB sh ?_)); clear sh; (try clear F); go_simp; (first | (have tok := tok_b2; clear tok tok_b2; intro b2 w1 sh) | intro b w1 sh | intro w1 sh); have F := sh.fxb)
      | fail)
  exact bodyPost_ret (Hp.res_ctt rfl rfl (sh.load 0 rfl (by kernel_rfl) (BatP.bt_size rfl))) rfl (BatP.GetP.err HX.out sh.below rfl)

set_option maxHeartbeats 2000000 in
set_option maxRecDepth 100000 in
theorem bget_c (c : UInt8) (l : List UInt8) (hl : l.length ≤ 40000) (h66 : c ≠ 66) (w : World) : Calls Tryd.prog 26 #[.string (bstr (c :: l))] w fun e w' => BatP.GetP (BatP.getB (c :: l)) w e w' := by
  have sh := (Hp.Sh.start (fun _ _ => trivial) : Hp.Sh w w [] (fun _ => True))
  obtain ⟨N, hN⟩ : ∃ N, N = l.length + 1 := ⟨_, rfl⟩
  have n1 : (bstr (c :: l)).toList.isEmpty = false := by rw [bstr_toList]; rfl
  have n2 : (bstr (c :: l)).size = N := by rw [bstr_size, hN]; rfl
  have n3 : (bstr (c :: l)).extract 1 N = bstr l := by
    rw [hN, bstr_extract, bstr_data]; simp
  have hlt0 : 0 < (bstr (c :: l)).size := by rw [n2]; omega
  have n4 : (bstr (c :: l))[0]'hlt0 = c := rfl
  have hc := c.toNat_lt
  have hN1 : 1 ≤ N := by omega
  have hN1I : (1 : Int) ≤ (N : Int) := by omega
  have hN2 : N ≤ 40001 := by omega
  have HX := Lib.hid (show BatP.getB (c :: l) = BatP.noB 3 by unfold BatP.getB; rw [if_neg (by simp), if_pos (by simpa using h66)])
  have d0 : ((c.toNat : Int) != 66) = true := by
    rw [bne_iff_ne]; intro h; exact h66 (UInt8.toNat_inj.1 (by show c.toNat = 66; omega))
  have d1 : (c.toNat != 66) = true := by
    rw [bne_iff_ne]; intro h; exact h66 (UInt8.toNat_inj.1 (by show c.toNat = 66; omega))
  have hcN : ¬ c.toNat = 66 := by simpa using d1
  clear hN hl h66
  go_enter Tryd.func26, Tryd.ntmps26
  have F := sh.fxb
  have tok_b2 : True := trivial
  go_wp2_with (first
      | ((with_reducible refine Hp.at_st 27 ?_ ?_); (rotate_left; exact rfl); (refine Hp.bst_all (g := 0) (s := none) (n := 0) (c := 0) (q := BatP.zeros) 0 sh rfl rfl rfl rfl (BatP.bt_size' rfl) ?_); clear sh; (try clear F); go_simp; intro w1 sh; (have F := sh.fxb))
      | ((with_reducible first | refine Hp.wpl_box sh ?_ ?_ | refine Hp.wpa sh ?_ ?_ | refine Hp.atl_store ?_ ?_); exact rfl; (try (refine Hp.wsB sh ?_)); clear sh; (try clear F); go_simp; (first | (have tok := tok_b2; clear tok tok_b2; intro b2 w1 sh) | intro b w1 sh | intro w1 sh); have F := sh.fxb)
      | fail)
  exact bodyPost_ret (Hp.res_ctt rfl rfl (sh.load 0 rfl (by kernel_rfl) (BatP.bt_size rfl))) rfl (BatP.GetP.err HX.out sh.below rfl)

set_option maxHeartbeats 2000000 in
set_option maxRecDepth 100000 in
theorem bget_s (c : UInt8) (l : List UInt8) (hl : l.length ≤ 40000) (h66 : c = 66) (h4 : l.length < 4) (w : World) : Calls Tryd.prog 26 #[.string (bstr (c :: l))] w fun e w' => BatP.GetP (BatP.getB (c :: l)) w e w' := by
  have sh := (Hp.Sh.start (fun _ _ => trivial) : Hp.Sh w w [] (fun _ => True))
  obtain ⟨N, hN⟩ : ∃ N, N = l.length + 1 := ⟨_, rfl⟩
  have n1 : (bstr (c :: l)).toList.isEmpty = false := by rw [bstr_toList]; rfl
  have n2 : (bstr (c :: l)).size = N := by rw [bstr_size, hN]; rfl
  have n3 : (bstr (c :: l)).extract 1 N = bstr l := by
    rw [hN, bstr_extract, bstr_data]; simp
  have hlt0 : 0 < (bstr (c :: l)).size := by rw [n2]; omega
  have n4 : (bstr (c :: l))[0]'hlt0 = c := rfl
  have hc := c.toNat_lt
  have hN1 : 1 ≤ N := by omega
  have hN1I : (1 : Int) ≤ (N : Int) := by omega
  have hN2 : N ≤ 40001 := by omega
  have hc6 : c.toNat = 66 := by rw [h66]; rfl
  have hg0 : ¬ (c :: l) = [] := by simp
  have hg1 : ¬ (c :: l).getD 0 0 ≠ 66 := by rw [h66]; simp
  have HX := Lib.hid (show BatP.getB (c :: l) = BatP.noB 4 by unfold BatP.getB; rw [if_neg hg0, if_neg hg1, if_pos (by rw [List.length_cons]; omega)])
  have hN5 : N < 5 := by omega
  have hN5I : (N : Int) < 5 := by omega
  clear hN hl hg0 hg1 h66
  go_enter Tryd.func26, Tryd.ntmps26
  have F := sh.fxb
  have tok_b2 : True := trivial
  go_wp2_with (first
      | ((with_reducible refine Hp.at_st 27 ?_ ?_); (rotate_left; exact rfl); (refine Hp.bst_all (g := 0) (s := none) (n := 0) (c := 0) (q := BatP.zeros) 0 sh rfl rfl rfl rfl (BatP.bt_size' rfl) ?_); clear sh; (try clear F); go_simp; intro w1 sh; (have F := sh.fxb))
      | ((with_reducible first | refine Hp.wpl_box sh ?_ ?_ | refine Hp.wpa sh ?_ ?_ | refine Hp.atl_store ?_ ?_); exact rfl; (try (refine Hp.wsB sh ?_)); clear sh; (try clear F); go_simp; (first | (have tok := tok_b2; clear tok tok_b2; intro b2 w1 sh) | intro b w1 sh | intro w1 sh); have F := sh.fxb)
      | fail)
  exact bodyPost_ret (Hp.res_ctt rfl rfl (sh.load 0 rfl (by kernel_rfl) (BatP.bt_size rfl))) rfl (BatP.GetP.err HX.out sh.below rfl)

set_option maxHeartbeats 2000000 in
set_option maxRecDepth 100000 in
theorem bget_l (c : UInt8) (l : List UInt8) (hl : l.length ≤ 40000) (h66 : c = 66) (h4 : 4 ≤ l.length) (hbig : 16384 < BatP.lenOf (c :: l)) (w : World) : Calls Tryd.prog 26 #[.string (bstr (c :: l))] w fun e w' => BatP.GetP (BatP.getB (c :: l)) w e w' := by
  have sh := (Hp.Sh.start (fun _ _ => trivial) : Hp.Sh w w [] (fun _ => True))
  obtain ⟨N, hN⟩ : ∃ N, N = l.length + 1 := ⟨_, rfl⟩
  have n1 : (bstr (c :: l)).toList.isEmpty = false := by rw [bstr_toList]; rfl
  have n2 : (bstr (c :: l)).size = N := by rw [bstr_size, hN]; rfl
  have n3 : (bstr (c :: l)).extract 1 N = bstr l := by
    rw [hN, bstr_extract, bstr_data]; simp
  have hlt0 : 0 < (bstr (c :: l)).size := by rw [n2]; omega
  have n4 : (bstr (c :: l))[0]'hlt0 = c := rfl
  have hc := c.toNat_lt
  have hN1 : 1 ≤ N := by omega
  have hN1I : (1 : Int) ≤ (N : Int) := by omega
  have hN2 : N ≤ 40001 := by omega
  have hc6 : c.toNat = 66 := by rw [h66]; rfl
  have hg0 : ¬ (c :: l) = [] := by simp
  have hg1 : ¬ (c :: l).getD 0 0 ≠ 66 := by rw [h66]; simp
  have hg2 : ¬ (c :: l).length < 5 := by rw [List.length_cons]; omega
  have hN5 : ¬ N < 5 := by omega
  have hN5I : ¬ (N : Int) < 5 := by omega
  have K1 := Lib.hid (fun W => wireTakeFixed_yes (bstr l) 4 W (by decide) (by decide) (by rw [bstr_size]; omega))
  rw [bstr_data, BatP.fix_yes h4, show ((4 : Nat) : Int) = 4 from rfl] at K1
  have hn4 := BatP.num4 (l := l)
  obtain ⟨n, hn⟩ : ∃ n, WireP.numOf (l.take 4) = n := ⟨_, rfl⟩
  rw [hn] at K1 hn4
  have hlo : BatP.lenOf (c :: l) = n := hn
  obtain ⟨M, hM⟩ : ∃ M, M = l.length - 4 := ⟨_, rfl⟩
  have m2 : (bstr (l.drop 4)).size = M := by rw [bstr_size, hM, List.length_drop]
  have HX := Lib.hid (show BatP.getB (c :: l) = BatP.noB 2 by unfold BatP.getB; rw [if_neg hg0, if_neg hg1, if_neg hg2, if_pos hbig])
  rw [hlo] at hbig
  have d1 : (16384 : Int) < (n : Int) := by omega
  clear hN hl hg0 hg1 hg2 h66 hn hlo hM h4
  go_enter Tryd.func26, Tryd.ntmps26
  have F := sh.fxb
  have tok_b2 : True := trivial
  go_wp2_with (first
      | ((with_reducible first | refine Hp.wpl_box sh ?_ ?_ | refine Hp.wpa sh ?_ ?_ | refine Hp.atl_store ?_ ?_); exact rfl; (try (refine Hp.wsB sh ?_)); clear sh; (try clear F); go_simp; (first | (have tok := tok_b2; clear tok tok_b2; intro b2 w1 sh) | intro b w1 sh | intro w1 sh); have F := sh.fxb)
      | fail)
  go_fit (K1.out _)
  rintro e w1 ⟨rfl, hb⟩
  replace sh := sh.call hb; clear hb; (try clear F); have F := sh.fxb
  go_wp2_with (first
      | ((with_reducible refine Hp.at_st 27 ?_ ?_); (rotate_left; exact rfl); (refine Hp.bst_all (g := 0) (s := none) (n := 0) (c := 0) (q := BatP.zeros) 0 sh rfl rfl rfl rfl (BatP.bt_size' rfl) ?_); clear sh; (try clear F); go_simp; intro w1 sh; (have F := sh.fxb))
      | ((with_reducible first | refine Hp.wpl_box sh ?_ ?_ | refine Hp.wpa sh ?_ ?_ | refine Hp.atl_store ?_ ?_); exact rfl; (try (refine Hp.wsB sh ?_)); clear sh; (try clear F); go_simp; (first | intro b w1 sh | intro w1 sh); have F := sh.fxb)
      | fail)
  exact bodyPost_ret (Hp.res_ctt rfl rfl (sh.load 0 rfl (by kernel_rfl) (BatP.bt_size rfl))) rfl (BatP.GetP.err HX.out sh.below rfl)

set_option maxHeartbeats 2000000 in
set_option maxRecDepth 100000 in
theorem bget_m (c : UInt8) (l : List UInt8) (hl : l.length ≤ 40000) (h66 : c = 66) (h4 : 4 ≤ l.length) (hbig : BatP.lenOf (c :: l) ≤ 16384) (hmore : (c :: l).length < 5 + BatP.lenOf (c :: l) + 4) (w : World) : Calls Tryd.prog 26 #[.string (bstr (c :: l))] w fun e w' => BatP.GetP (BatP.getB (c :: l)) w e w' := by
  have sh := (Hp.Sh.start (fun _ _ => trivial) : Hp.Sh w w [] (fun _ => True))
  obtain ⟨N, hN⟩ : ∃ N, N = l.length + 1 := ⟨_, rfl⟩
  have n1 : (bstr (c :: l)).toList.isEmpty = false := by rw [bstr_toList]; rfl
  have n2 : (bstr (c :: l)).size = N := by rw [bstr_size, hN]; rfl
  have n3 : (bstr (c :: l)).extract 1 N = bstr l := by
    rw [hN, bstr_extract, bstr_data]; simp
  have hlt0 : 0 < (bstr (c :: l)).size := by rw [n2]; omega
  have n4 : (bstr (c :: l))[0]'hlt0 = c := rfl
  have hc := c.toNat_lt
  have hN1 : 1 ≤ N := by omega
  have hN1I : (1 : Int) ≤ (N : Int) := by omega
  have hN2 : N ≤ 40001 := by omega
  have hc6 : c.toNat = 66 := by rw [h66]; rfl
  have hg0 : ¬ (c :: l) = [] := by simp
  have hg1 : ¬ (c :: l).getD 0 0 ≠ 66 := by rw [h66]; simp
  have hg2 : ¬ (c :: l).length < 5 := by rw [List.length_cons]; omega
  have hN5 : ¬ N < 5 := by omega
  have hN5I : ¬ (N : Int) < 5 := by omega
  have K1 := Lib.hid (fun W => wireTakeFixed_yes (bstr l) 4 W (by decide) (by decide) (by rw [bstr_size]; omega))
  rw [bstr_data, BatP.fix_yes h4, show ((4 : Nat) : Int) = 4 from rfl] at K1
  have hn4 := BatP.num4 (l := l)
  obtain ⟨n, hn⟩ : ∃ n, WireP.numOf (l.take 4) = n := ⟨_, rfl⟩
  rw [hn] at K1 hn4
  have hlo : BatP.lenOf (c :: l) = n := hn
  obtain ⟨M, hM⟩ : ∃ M, M = l.length - 4 := ⟨_, rfl⟩
  have m2 : (bstr (l.drop 4)).size = M := by rw [bstr_size, hM, List.length_drop]
  have hg3 : ¬ 16384 < BatP.lenOf (c :: l) := by omega
  rw [hlo] at hbig
  have d1 : ¬ (16384 : Int) < (n : Int) := by omega
  have d1N : ¬ 16384 < n := by omega
  have z1 : IntKind.u64.wrap (M : Int) = (M : Int) := by simp [IntKind.wrap, IntKind.bits, IntKind.signed]; omega
  have z2 : IntKind.u64.wrap ((n : Int) + 4) = (n : Int) + 4 := by simp [IntKind.wrap, IntKind.bits, IntKind.signed]; omega
  have HX := Lib.hid (show BatP.getB (c :: l) = BatP.noB 4 by unfold BatP.getB; rw [if_neg hg0, if_neg hg1, if_neg hg2, if_neg hg3, if_pos hmore])
  rw [hlo, List.length_cons] at hmore
  have d2 : (M : Int) < (n : Int) + 4 := by omega
  have d2N : M < n + 4 := by omega
  clear hg3 hmore
  clear hN hl hg0 hg1 hg2 h66 hn hlo hM h4
  go_enter Tryd.func26, Tryd.ntmps26
  have F := sh.fxb
  have tok_b2 : True := trivial
  go_wp2_with (first
      | ((with_reducible first | refine Hp.wpl_box sh ?_ ?_ | refine Hp.wpa sh ?_ ?_ | refine Hp.atl_store ?_ ?_); exact rfl; (try (refine Hp.wsB sh ?_)); clear sh; (try clear F); go_simp; (first | (have tok := tok_b2; clear tok tok_b2; intro b2 w1 sh) | intro b w1 sh | intro w1 sh); have F := sh.fxb)
      | fail)
  go_fit (K1.out _)
  rintro e w1 ⟨rfl, hb⟩
  replace sh := sh.call hb; clear hb; (try clear F); have F := sh.fxb
  go_wp2_with (first
      | ((with_reducible refine Hp.at_st 27 ?_ ?_); (rotate_left; exact rfl); (refine Hp.bst_all (g := 0) (s := none) (n := 0) (c := 0) (q := BatP.zeros) 0 sh rfl rfl rfl rfl (BatP.bt_size' rfl) ?_); clear sh; (try clear F); go_simp; intro w1 sh; (have F := sh.fxb))
      | ((with_reducible first | refine Hp.wpl_box sh ?_ ?_ | refine Hp.wpa sh ?_ ?_ | refine Hp.atl_store ?_ ?_); exact rfl; (try (refine Hp.wsB sh ?_)); clear sh; (try clear F); go_simp; (first | intro b w1 sh | intro w1 sh); have F := sh.fxb)
      | fail)
  exact bodyPost_ret (Hp.res_ctt rfl rfl (sh.load 0 rfl (by kernel_rfl) (BatP.bt_size rfl))) rfl (BatP.GetP.err HX.out sh.below rfl)

set_option maxHeartbeats 2000000 in
set_option maxRecDepth 100000 in
theorem bget_x (c : UInt8) (l : List UInt8) (hl : l.length ≤ 40000) (h66 : c = 66) (h4 : 4 ≤ l.length) (hbig : BatP.lenOf (c :: l) ≤ 16384) (hmore : ¬ (c :: l).length < 5 + BatP.lenOf (c :: l) + 4) (hsum : WireP.numOf (((c :: l).drop (5 + BatP.lenOf (c :: l))).take 4) ≠ (CrcP.ofL ((c :: l).take (5 + BatP.lenOf (c :: l)))).toNat) (w : World) : Calls Tryd.prog 26 #[.string (bstr (c :: l))] w fun e w' => BatP.GetP (BatP.getB (c :: l)) w e w' := by
  have sh := (Hp.Sh.start (fun _ _ => trivial) : Hp.Sh w w [] (fun _ => True))
  obtain ⟨N, hN⟩ : ∃ N, N = l.length + 1 := ⟨_, rfl⟩
  have n1 : (bstr (c :: l)).toList.isEmpty = false := by rw [bstr_toList]; rfl
  have n2 : (bstr (c :: l)).size = N := by rw [bstr_size, hN]; rfl
  have n3 : (bstr (c :: l)).extract 1 N = bstr l := by
    rw [hN, bstr_extract, bstr_data]; simp
  have hlt0 : 0 < (bstr (c :: l)).size := by rw [n2]; omega
  have n4 : (bstr (c :: l))[0]'hlt0 = c := rfl
  have hc := c.toNat_lt
  have hN1 : 1 ≤ N := by omega
  have hN1I : (1 : Int) ≤ (N : Int) := by omega
  have hN2 : N ≤ 40001 := by omega
  have hc6 : c.toNat = 66 := by rw [h66]; rfl
  have hg0 : ¬ (c :: l) = [] := by simp
  have hg1 : ¬ (c :: l).getD 0 0 ≠ 66 := by rw [h66]; simp
  have hg2 : ¬ (c :: l).length < 5 := by rw [List.length_cons]; omega
  have hN5 : ¬ N < 5 := by omega
  have hN5I : ¬ (N : Int) < 5 := by omega
  have K1 := Lib.hid (fun W => wireTakeFixed_yes (bstr l) 4 W (by decide) (by decide) (by rw [bstr_size]; omega))
  rw [bstr_data, BatP.fix_yes h4, show ((4 : Nat) : Int) = 4 from rfl] at K1
  have hn4 := BatP.num4 (l := l)
  obtain ⟨n, hn⟩ : ∃ n, WireP.numOf (l.take 4) = n := ⟨_, rfl⟩
  rw [hn] at K1 hn4
  have hlo : BatP.lenOf (c :: l) = n := hn
  obtain ⟨M, hM⟩ : ∃ M, M = l.length - 4 := ⟨_, rfl⟩
  have m2 : (bstr (l.drop 4)).size = M := by rw [bstr_size, hM, List.length_drop]
  have hg3 : ¬ 16384 < BatP.lenOf (c :: l) := by omega
  rw [hlo] at hbig
  have d1 : ¬ (16384 : Int) < (n : Int) := by omega
  have d1N : ¬ 16384 < n := by omega
  have z1 : IntKind.u64.wrap (M : Int) = (M : Int) := by simp [IntKind.wrap, IntKind.bits, IntKind.signed]; omega
  have z2 : IntKind.u64.wrap ((n : Int) + 4) = (n : Int) + 4 := by simp [IntKind.wrap, IntKind.bits, IntKind.signed]; omega
  have hmore2 := hmore
  rw [hlo, List.length_cons] at hmore2
  have d2 : ¬ (M : Int) < (n : Int) + 4 := by omega
  have d2N : ¬ M < n + 4 := by omega
  obtain ⟨en, hen⟩ : ∃ en, en = 5 + n := ⟨_, rfl⟩
  have z3 : IntKind.i64.wrap (n : Int) = (n : Int) := by rw [IntWalk.i64_in _ (by omega)]
  have z4 : IntKind.i64.wrap (5 + (n : Int)) = (en : Int) := by rw [IntWalk.i64_in _ (by omega)]; omega
  have z6 : IntKind.i64.wrap ((en : Int) + 4) = ((n + 9 : Nat) : Int) := by rw [IntWalk.i64_in _ (by omega)]; omega
  have hN4 : (c :: l).length = N := by rw [List.length_cons, hN]
  have e5 : 5 ≤ en := by omega
  have e5I : (5 : Int) ≤ (en : Int) := by omega
  have eN : en ≤ N := by omega
  have eNI : (en : Int) ≤ (N : Int) := by omega
  have n6 : (bstr (c :: l)).extract en N = bstr ((c :: l).drop en) := by rw [← n2, WireP.drop_str, bstr_data]
  have n7 : (bstr (c :: l)).extract 0 en = bstr ((c :: l).take en) := by rw [bstr_extract, bstr_data, List.drop_zero]
  have n8 : (bstr (c :: l)).extract 5 en = bstr (((c :: l).take en).drop 5) := by rw [bstr_extract, bstr_data]
  have hdl : ((c :: l).drop en).length = N - en := by rw [List.length_drop, hN4]
  have htl : ((c :: l).take en).length = en := by rw [List.length_take, hN4]; omega
  have K2 := Lib.hid (fun W => wireTakeFixed_yes (bstr ((c :: l).drop en)) 4 W (by decide) (by decide) (by rw [bstr_size]; omega))
  rw [bstr_data, BatP.fix_yes (by omega), show ((4 : Nat) : Int) = 4 from rfl] at K2
  have K3 := Lib.hid (fun W => crcOf_any (bstr ((c :: l).take en)) W (by rw [bstr_size]; omega))
  rw [bstr_data] at K3
  have hcr := (CrcP.ofL ((c :: l).take en)).isLt
  have hle : 5 + BatP.lenOf (c :: l) = en := by omega
  rw [hle] at hsum
  have hg4 : ¬ (c :: l).length < 5 + BatP.lenOf (c :: l) + 4 := hmore
  have HX := Lib.hid (show BatP.getB (c :: l) = BatP.noB 10 by unfold BatP.getB; rw [if_neg hg0, if_neg hg1, if_neg hg2, if_neg hg3, if_neg hg4, hle, if_pos hsum])
  generalize WireP.numOf (((c :: l).drop en).take 4) = sm at K2 hsum
  generalize (CrcP.ofL ((c :: l).take en)).toNat = cr at K3 hsum hcr
  have z5 : IntKind.u64.wrap (cr : Int) = (cr : Int) := by simp [IntKind.wrap, IntKind.bits, IntKind.signed]; omega
  have d3 : ((sm : Int) != (cr : Int)) = true := by rw [bne_iff_ne]; omega
  have d3N : (sm != cr) = true := by rw [bne_iff_ne]; exact hsum
  have d3P : ¬ sm = cr := hsum
  clear hg3 hg4 hmore hmore2 hen hN4 hdl htl hle hsum hcr
  clear hN hl hg0 hg1 hg2 h66 hn hlo hM h4
  go_enter Tryd.func26, Tryd.ntmps26
  have F := sh.fxb
  have tok_b2 : True := trivial
  go_wp2_with (first
      | ((with_reducible first | refine Hp.wpl_box sh ?_ ?_ | refine Hp.wpa sh ?_ ?_ | refine Hp.atl_store ?_ ?_); exact rfl; (try (refine Hp.wsB sh ?_)); clear sh; (try clear F); go_simp; (first | (have tok := tok_b2; clear tok tok_b2; intro b2 w1 sh) | intro b w1 sh | intro w1 sh); have F := sh.fxb)
      | fail)
  go_fit (K1.out _)
  rintro e w1 ⟨rfl, hb⟩
  replace sh := sh.call hb; clear hb; (try clear F); have F := sh.fxb
  go_wp2_with (first
      | ((with_reducible first | refine Hp.wpl_box sh ?_ ?_ | refine Hp.wpa sh ?_ ?_ | refine Hp.atl_store ?_ ?_); exact rfl; (try (refine Hp.wsB sh ?_)); clear sh; (try clear F); go_simp; (first | intro b w1 sh | intro w1 sh); have F := sh.fxb)
      | fail)
  go_fit (K2.out _)
  rintro e w1 ⟨rfl, hb⟩
  replace sh := sh.call hb; clear hb; (try clear F); have F := sh.fxb
  go_wp2_with (first
      | ((with_reducible first | refine Hp.wpl_box sh ?_ ?_ | refine Hp.wpa sh ?_ ?_ | refine Hp.atl_store ?_ ?_); exact rfl; (try (refine Hp.wsB sh ?_)); clear sh; (try clear F); go_simp; (first | intro b w1 sh | intro w1 sh); have F := sh.fxb)
      | fail)
  go_fit (K3.out _)
  rintro e w1 ⟨rfl, hb⟩
  replace sh := sh.call hb; clear hb; (try clear F); have F := sh.fxb
  go_wp2_with (first
      | ((with_reducible refine Hp.at_st 27 ?_ ?_); (rotate_left; exact rfl); (refine Hp.bst_all (g := 0) (s := none) (n := 0) (c := 0) (q := BatP.zeros) 0 sh rfl rfl rfl rfl (BatP.bt_size' rfl) ?_); clear sh; (try clear F); go_simp; intro w1 sh; (have F := sh.fxb))
      | ((with_reducible first | refine Hp.wpl_box sh ?_ ?_ | refine Hp.wpa sh ?_ ?_ | refine Hp.atl_store ?_ ?_); exact rfl; (try (refine Hp.wsB sh ?_)); clear sh; (try clear F); go_simp; (first | intro b w1 sh | intro w1 sh); have F := sh.fxb)
      | fail)
  exact bodyPost_ret (Hp.res_ctt rfl rfl (sh.load 0 rfl (by kernel_rfl) (BatP.bt_size rfl))) rfl (BatP.GetP.err HX.out sh.below rfl)

set_option maxHeartbeats 2000000 in
set_option maxRecDepth 100000 in
theorem bget_r (c : UInt8) (l : List UInt8) (hl : l.length ≤ 40000) (h66 : c = 66) (h4 : 4 ≤ l.length) (hbig : BatP.lenOf (c :: l) ≤ 16384) (hmore : ¬ (c :: l).length < 5 + BatP.lenOf (c :: l) + 4) (hsum : WireP.numOf (((c :: l).drop (5 + BatP.lenOf (c :: l))).take 4) = (CrcP.ofL ((c :: l).take (5 + BatP.lenOf (c :: l)))).toNat) (hr : BatP.readB (((c :: l).take (5 + BatP.lenOf (c :: l))).drop 5) = none) (w : World) : Calls Tryd.prog 26 #[.string (bstr (c :: l))] w fun e w' => BatP.GetP (BatP.getB (c :: l)) w e w' := by
  have sh := (Hp.Sh.start (fun _ _ => trivial) : Hp.Sh w w [] (fun _ => True))
  obtain ⟨N, hN⟩ : ∃ N, N = l.length + 1 := ⟨_, rfl⟩
  have n1 : (bstr (c :: l)).toList.isEmpty = false := by rw [bstr_toList]; rfl
  have n2 : (bstr (c :: l)).size = N := by rw [bstr_size, hN]; rfl
  have n3 : (bstr (c :: l)).extract 1 N = bstr l := by
    rw [hN, bstr_extract, bstr_data]; simp
  have hlt0 : 0 < (bstr (c :: l)).size := by rw [n2]; omega
  have n4 : (bstr (c :: l))[0]'hlt0 = c := rfl
  have hc := c.toNat_lt
  have hN1 : 1 ≤ N := by omega
  have hN1I : (1 : Int) ≤ (N : Int) := by omega
  have hN2 : N ≤ 40001 := by omega
  have hc6 : c.toNat = 66 := by rw [h66]; rfl
  have hg0 : ¬ (c :: l) = [] := by simp
  have hg1 : ¬ (c :: l).getD 0 0 ≠ 66 := by rw [h66]; simp
  have hg2 : ¬ (c :: l).length < 5 := by rw [List.length_cons]; omega
  have hN5 : ¬ N < 5 := by omega
  have hN5I : ¬ (N : Int) < 5 := by omega
  have K1 := Lib.hid (fun W => wireTakeFixed_yes (bstr l) 4 W (by decide) (by decide) (by rw [bstr_size]; omega))
  rw [bstr_data, BatP.fix_yes h4, show ((4 : Nat) : Int) = 4 from rfl] at K1
  have hn4 := BatP.num4 (l := l)
  obtain ⟨n, hn⟩ : ∃ n, WireP.numOf (l.take 4) = n := ⟨_, rfl⟩
  rw [hn] at K1 hn4
  have hlo : BatP.lenOf (c :: l) = n := hn
  obtain ⟨M, hM⟩ : ∃ M, M = l.length - 4 := ⟨_, rfl⟩
  have m2 : (bstr (l.drop 4)).size = M := by rw [bstr_size, hM, List.length_drop]
  have hg3 : ¬ 16384 < BatP.lenOf (c :: l) := by omega
  rw [hlo] at hbig
  have d1 : ¬ (16384 : Int) < (n : Int) := by omega
  have d1N : ¬ 16384 < n := by omega
  have z1 : IntKind.u64.wrap (M : Int) = (M : Int) := by simp [IntKind.wrap, IntKind.bits, IntKind.signed]; omega
  have z2 : IntKind.u64.wrap ((n : Int) + 4) = (n : Int) + 4 := by simp [IntKind.wrap, IntKind.bits, IntKind.signed]; omega
  have hmore2 := hmore
  rw [hlo, List.length_cons] at hmore2
  have d2 : ¬ (M : Int) < (n : Int) + 4 := by omega
  have d2N : ¬ M < n + 4 := by omega
  obtain ⟨en, hen⟩ : ∃ en, en = 5 + n := ⟨_, rfl⟩
  have z3 : IntKind.i64.wrap (n : Int) = (n : Int) := by rw [IntWalk.i64_in _ (by omega)]
  have z4 : IntKind.i64.wrap (5 + (n : Int)) = (en : Int) := by rw [IntWalk.i64_in _ (by omega)]; omega
  have z6 : IntKind.i64.wrap ((en : Int) + 4) = ((n + 9 : Nat) : Int) := by rw [IntWalk.i64_in _ (by omega)]; omega
  have hN4 : (c :: l).length = N := by rw [List.length_cons, hN]
  have e5 : 5 ≤ en := by omega
  have e5I : (5 : Int) ≤ (en : Int) := by omega
  have eN : en ≤ N := by omega
  have eNI : (en : Int) ≤ (N : Int) := by omega
  have n6 : (bstr (c :: l)).extract en N = bstr ((c :: l).drop en) := by rw [← n2, WireP.drop_str, bstr_data]
  have n7 : (bstr (c :: l)).extract 0 en = bstr ((c :: l).take en) := by rw [bstr_extract, bstr_data, List.drop_zero]
  have n8 : (bstr (c :: l)).extract 5 en = bstr (((c :: l).take en).drop 5) := by rw [bstr_extract, bstr_data]
  have hdl : ((c :: l).drop en).length = N - en := by rw [List.length_drop, hN4]
  have htl : ((c :: l).take en).length = en := by rw [List.length_take, hN4]; omega
  have K2 := Lib.hid (fun W => wireTakeFixed_yes (bstr ((c :: l).drop en)) 4 W (by decide) (by decide) (by rw [bstr_size]; omega))
  rw [bstr_data, BatP.fix_yes (by omega), show ((4 : Nat) : Int) = 4 from rfl] at K2
  have K3 := Lib.hid (fun W => crcOf_any (bstr ((c :: l).take en)) W (by rw [bstr_size]; omega))
  rw [bstr_data] at K3
  have hcr := (CrcP.ofL ((c :: l).take en)).isLt
  have hle : 5 + BatP.lenOf (c :: l) = en := by omega
  rw [hle] at hsum
  have hg4 : ¬ (c :: l).length < 5 + BatP.lenOf (c :: l) + 4 := hmore
  have HX := Lib.hid (show BatP.getB (c :: l) = BatP.noB 3 by unfold BatP.getB; rw [if_neg hg0, if_neg hg1, if_neg hg2, if_neg hg3, if_neg hg4, hle, if_neg (by rw [hsum]; simp)]; rw [hle] at hr; rw [hr])
  rw [hle] at hr
  generalize hsm : WireP.numOf (((c :: l).drop en).take 4) = sm at K2 hsum
  subst hsum
  have z5 : IntKind.u64.wrap (((CrcP.ofL ((c :: l).take en)).toNat : Nat) : Int) = (((CrcP.ofL ((c :: l).take en)).toNat : Nat) : Int) := by simp [IntKind.wrap, IntKind.bits, IntKind.signed]; omega
  have K4 := Lib.hid (fun W => bread (((c :: l).take en).drop 5) (by rw [List.length_drop]; omega) W)
  rw [hr] at K4
  dsimp only [BatP.ReadP] at K4
  have HQ := Lib.hid (show BatP.zeros.length = BatP.zeros.length from rfl)
  clear hr
  generalize (CrcP.ofL ((c :: l).take en)).toNat = cr at K3 z5 K2 hcr
  clear hg3 hg4 hmore hmore2 hen hN4 hdl htl hle hcr hsm
  clear hN hl hg0 hg1 hg2 h66 hn hlo hM h4
  go_enter Tryd.func26, Tryd.ntmps26
  have F := sh.fxb
  have tok_b2 : True := trivial
  go_wp2_with (first
      | ((with_reducible first | refine Hp.wpl_box sh ?_ ?_ | refine Hp.wpa sh ?_ ?_ | refine Hp.atl_store ?_ ?_); exact rfl; (try (refine Hp.wsB sh ?_)); clear sh; (try clear F); go_simp; (first | (have tok := tok_b2; clear tok tok_b2; intro b2 w1 sh) | intro b w1 sh | intro w1 sh); have F := sh.fxb)
      | fail)
  go_fit (K1.out _)
  rintro e w1 ⟨rfl, hb⟩
  replace sh := sh.call hb; clear hb; (try clear F); have F := sh.fxb
  go_wp2_with (first
      | ((with_reducible first | refine Hp.wpl_box sh ?_ ?_ | refine Hp.wpa sh ?_ ?_ | refine Hp.atl_store ?_ ?_); exact rfl; (try (refine Hp.wsB sh ?_)); clear sh; (try clear F); go_simp; (first | intro b w1 sh | intro w1 sh); have F := sh.fxb)
      | fail)
  go_fit (K2.out _)
  rintro e w1 ⟨rfl, hb⟩
  replace sh := sh.call hb; clear hb; (try clear F); have F := sh.fxb
  go_wp2_with (first
      | ((with_reducible first | refine Hp.wpl_box sh ?_ ?_ | refine Hp.wpa sh ?_ ?_ | refine Hp.atl_store ?_ ?_); exact rfl; (try (refine Hp.wsB sh ?_)); clear sh; (try clear F); go_simp; (first | intro b w1 sh | intro w1 sh); have F := sh.fxb)
      | fail)
  go_fit (K3.out _)
  rintro e w1 ⟨rfl, hb⟩
  replace sh := sh.call hb; clear hb; (try clear F); have F := sh.fxb
  go_wp2_with (first
      | ((with_reducible first | refine Hp.wpl_box sh ?_ ?_ | refine Hp.wpa sh ?_ ?_ | refine Hp.atl_store ?_ ?_); exact rfl; (try (refine Hp.wsB sh ?_)); clear sh; (try clear F); go_simp; (first | intro b w1 sh | intro w1 sh); have F := sh.fxb)
      | fail)
  go_fit (K4.out _)
  rintro e w1 ⟨rfl, hb⟩
  replace sh := sh.call hb; clear hb; (try clear F); have F := sh.fxb
  have tok_b11 : True := trivial
  go_wp2_with (first
      | ((with_reducible refine Hp.at_st 27 ?_ ?_); (rotate_left; exact rfl); (refine Hp.bst_all (g := 0) (s := none) (n := 0) (c := 0) (q := BatP.zeros) 0 sh rfl rfl rfl rfl (BatP.bt_size' rfl) ?_); clear sh; (try clear F); go_simp; intro w1 sh; (have F := sh.fxb))
      | ((with_reducible refine Hp.at_st 27 ?_ ?_); (rotate_left; exact rfl); (refine Hp.bst_all (g := 0) (s := none) (n := 0) (c := 0) (q := BatP.zeros) 1 sh rfl rfl rfl rfl (BatP.bt_size' rfl) ?_); clear sh; (try clear F); go_simp; intro w1 sh; (have F := sh.fxb))
      | ((with_reducible first | refine Hp.wpl_box sh ?_ ?_ | refine Hp.wpa sh ?_ ?_ | refine Hp.atl_store ?_ ?_); exact rfl; (try (refine Hp.wsB sh ?_)); clear sh; (try clear F); go_simp; (first | (have tok := tok_b11; clear tok tok_b11; intro b11 w1 sh) | intro b w1 sh | intro w1 sh); have F := sh.fxb)
      | fail)
  exact bodyPost_ret (Hp.res_ctt rfl rfl (sh.load 1 rfl (by kernel_rfl) (BatP.bt_size rfl))) rfl (BatP.GetP.err HX.out sh.below rfl)

set_option maxHeartbeats 2000000 in
set_option maxRecDepth 100000 in
theorem bget_y (c : UInt8) (l : List UInt8) (hl : l.length ≤ 40000) (h66 : c = 66) (h4 : 4 ≤ l.length) (hbig : BatP.lenOf (c :: l) ≤ 16384) (hmore : ¬ (c :: l).length < 5 + BatP.lenOf (c :: l) + 4) (hsum : WireP.numOf (((c :: l).drop (5 + BatP.lenOf (c :: l))).take 4) = (CrcP.ofL ((c :: l).take (5 + BatP.lenOf (c :: l)))).toNat) {f : Int} {ls : List EvP.Ev} {pv : List UInt8} (hr : BatP.readB (((c :: l).take (5 + BatP.lenOf (c :: l))).drop 5) = some (f, ls, pv)) (w : World) : Calls Tryd.prog 26 #[.string (bstr (c :: l))] w fun e w' => BatP.GetP (BatP.getB (c :: l)) w e w' := by
  have sh := (Hp.Sh.start (fun _ _ => trivial) : Hp.Sh w w [] (fun _ => True))
  obtain ⟨N, hN⟩ : ∃ N, N = l.length + 1 := ⟨_, rfl⟩
  have n1 : (bstr (c :: l)).toList.isEmpty = false := by rw [bstr_toList]; rfl
  have n2 : (bstr (c :: l)).size = N := by rw [bstr_size, hN]; rfl
  have n3 : (bstr (c :: l)).extract 1 N = bstr l := by
    rw [hN, bstr_extract, bstr_data]; simp
  have hlt0 : 0 < (bstr (c :: l)).size := by rw [n2]; omega
  have n4 : (bstr (c :: l))[0]'hlt0 = c := rfl
  have hc := c.toNat_lt
  have hN1 : 1 ≤ N := by omega
  have hN1I : (1 : Int) ≤ (N : Int) := by omega
  have hN2 : N ≤ 40001 := by omega
  have hc6 : c.toNat = 66 := by rw [h66]; rfl
  have hg0 : ¬ (c :: l) = [] := by simp
  have hg1 : ¬ (c :: l).getD 0 0 ≠ 66 := by rw [h66]; simp
  have hg2 : ¬ (c :: l).length < 5 := by rw [List.length_cons]; omega
  have hN5 : ¬ N < 5 := by omega
  have hN5I : ¬ (N : Int) < 5 := by omega
  have K1 := Lib.hid (fun W => wireTakeFixed_yes (bstr l) 4 W (by decide) (by decide) (by rw [bstr_size]; omega))
  rw [bstr_data, BatP.fix_yes h4, show ((4 : Nat) : Int) = 4 from rfl] at K1
  have hn4 := BatP.num4 (l := l)
  obtain ⟨n, hn⟩ : ∃ n, WireP.numOf (l.take 4) = n := ⟨_, rfl⟩
  rw [hn] at K1 hn4
  have hlo : BatP.lenOf (c :: l) = n := hn
  obtain ⟨M, hM⟩ : ∃ M, M = l.length - 4 := ⟨_, rfl⟩
  have m2 : (bstr (l.drop 4)).size = M := by rw [bstr_size, hM, List.length_drop]
  have hg3 : ¬ 16384 < BatP.lenOf (c :: l) := by omega
  rw [hlo] at hbig
  have d1 : ¬ (16384 : Int) < (n : Int) := by omega
  have d1N : ¬ 16384 < n := by omega
  have z1 : IntKind.u64.wrap (M : Int) = (M : Int) := by simp [IntKind.wrap, IntKind.bits, IntKind.signed]; omega
  have z2 : IntKind.u64.wrap ((n : Int) + 4) = (n : Int) + 4 := by simp [IntKind.wrap, IntKind.bits, IntKind.signed]; omega
  have hmore2 := hmore
  rw [hlo, List.length_cons] at hmore2
  have d2 : ¬ (M : Int) < (n : Int) + 4 := by omega
  have d2N : ¬ M < n + 4 := by omega
  obtain ⟨en, hen⟩ : ∃ en, en = 5 + n := ⟨_, rfl⟩
  have z3 : IntKind.i64.wrap (n : Int) = (n : Int) := by rw [IntWalk.i64_in _ (by omega)]
  have z4 : IntKind.i64.wrap (5 + (n : Int)) = (en : Int) := by rw [IntWalk.i64_in _ (by omega)]; omega
  have z6 : IntKind.i64.wrap ((en : Int) + 4) = ((n + 9 : Nat) : Int) := by rw [IntWalk.i64_in _ (by omega)]; omega
  have hN4 : (c :: l).length = N := by rw [List.length_cons, hN]
  have e5 : 5 ≤ en := by omega
  have e5I : (5 : Int) ≤ (en : Int) := by omega
  have eN : en ≤ N := by omega
  have eNI : (en : Int) ≤ (N : Int) := by omega
  have n6 : (bstr (c :: l)).extract en N = bstr ((c :: l).drop en) := by rw [← n2, WireP.drop_str, bstr_data]
  have n7 : (bstr (c :: l)).extract 0 en = bstr ((c :: l).take en) := by rw [bstr_extract, bstr_data, List.drop_zero]
  have n8 : (bstr (c :: l)).extract 5 en = bstr (((c :: l).take en).drop 5) := by rw [bstr_extract, bstr_data]
  have hdl : ((c :: l).drop en).length = N - en := by rw [List.length_drop, hN4]
  have htl : ((c :: l).take en).length = en := by rw [List.length_take, hN4]; omega
  have K2 := Lib.hid (fun W => wireTakeFixed_yes (bstr ((c :: l).drop en)) 4 W (by decide) (by decide) (by rw [bstr_size]; omega))
  rw [bstr_data, BatP.fix_yes (by omega), show ((4 : Nat) : Int) = 4 from rfl] at K2
  have K3 := Lib.hid (fun W => crcOf_any (bstr ((c :: l).take en)) W (by rw [bstr_size]; omega))
  rw [bstr_data] at K3
  have hcr := (CrcP.ofL ((c :: l).take en)).isLt
  have hle : 5 + BatP.lenOf (c :: l) = en := by omega
  rw [hle] at hsum
  have hg4 : ¬ (c :: l).length < 5 + BatP.lenOf (c :: l) + 4 := hmore
  have HX := Lib.hid (show BatP.getB (c :: l) = (((f, ls, pv), n + 9), 0) by unfold BatP.getB; rw [if_neg hg0, if_neg hg1, if_neg hg2, if_neg hg3, if_neg hg4, hle, if_neg (by rw [hsum]; simp)]; rw [hle] at hr; rw [hr, hlo])
  rw [hle] at hr
  generalize hsm : WireP.numOf (((c :: l).drop en).take 4) = sm at K2 hsum
  subst hsum
  have z5 : IntKind.u64.wrap (((CrcP.ofL ((c :: l).take en)).toNat : Nat) : Int) = (((CrcP.ofL ((c :: l).take en)).toNat : Nat) : Int) := by simp [IntKind.wrap, IntKind.bits, IntKind.signed]; omega
  have K4 := Lib.hid (fun W => bread (((c :: l).take en).drop 5) (by rw [List.length_drop]; omega) W)
  have hpv := (BatP.read_back hr).2.1.prev
  rw [hr] at K4
  dsimp only [BatP.ReadP] at K4
  dsimp only at hpv
  have HQ := Lib.hid (show pv.length = BatP.zeros.length from hpv)
  have HPL := Lib.hid hpv
  obtain ⟨nl, hnl⟩ : ∃ k, ls.length = k := ⟨_, rfl⟩
  rw [hnl] at K4
  have HNL := Lib.hid hnl
  clear hr hpv hnl
  generalize (CrcP.ofL ((c :: l).take en)).toNat = cr at K3 z5 K2 hcr
  clear hg3 hg4 hmore hmore2 hen hN4 hdl htl hle hcr hsm
  clear hN hl hg0 hg1 hg2 h66 hn hlo hM h4
  go_enter Tryd.func26, Tryd.ntmps26
  have F := sh.fxb
  have tok_b2 : True := trivial
  go_wp2_with (first
      | ((with_reducible first | refine Hp.wpl_box sh ?_ ?_ | refine Hp.wpa sh ?_ ?_ | refine Hp.atl_store ?_ ?_); exact rfl; (try (refine Hp.wsB sh ?_)); clear sh; (try clear F); go_simp; (first | (have tok := tok_b2; clear tok tok_b2; intro b2 w1 sh) | intro b w1 sh | intro w1 sh); have F := sh.fxb)
      | fail)
  go_fit (K1.out _)
  rintro e w1 ⟨rfl, hb⟩
  replace sh := sh.call hb; clear hb; (try clear F); have F := sh.fxb
  go_wp2_with (first
      | ((with_reducible first | refine Hp.wpl_box sh ?_ ?_ | refine Hp.wpa sh ?_ ?_ | refine Hp.atl_store ?_ ?_); exact rfl; (try (refine Hp.wsB sh ?_)); clear sh; (try clear F); go_simp; (first | intro b w1 sh | intro w1 sh); have F := sh.fxb)
      | fail)
  go_fit (K2.out _)
  rintro e w1 ⟨rfl, hb⟩
  replace sh := sh.call hb; clear hb; (try clear F); have F := sh.fxb
  go_wp2_with (first
      | ((with_reducible first | refine Hp.wpl_box sh ?_ ?_ | refine Hp.wpa sh ?_ ?_ | refine Hp.atl_store ?_ ?_); exact rfl; (try (refine Hp.wsB sh ?_)); clear sh; (try clear F); go_simp; (first | intro b w1 sh | intro w1 sh); have F := sh.fxb)
      | fail)
  go_fit (K3.out _)
  rintro e w1 ⟨rfl, hb⟩
  replace sh := sh.call hb; clear hb; (try clear F); have F := sh.fxb
  go_wp2_with (first
      | ((with_reducible first | refine Hp.wpl_box sh ?_ ?_ | refine Hp.wpa sh ?_ ?_ | refine Hp.atl_store ?_ ?_); exact rfl; (try (refine Hp.wsB sh ?_)); clear sh; (try clear F); go_simp; (first | intro b w1 sh | intro w1 sh); have F := sh.fxb)
      | fail)
  go_fit (K4.out _)
  rintro e w1 ⟨s9, c9, rfl, hn9, hr9, hb9, hc9, hcm9⟩
  have sh0 := sh
  replace sh := Hp.gain sh hb9 hn9 hr9
  have HFR := Lib.hid (fun p (h : s9 = some p) => Nat.le_trans sh0.below.size (hn9 p h))
  clear hn9 hr9 hb9 sh0
  (try clear F); (have F := sh.fxb)
  have tok_b11 : True := trivial
  go_wp2_with (first
      | ((with_reducible refine Hp.at_st 27 ?_ ?_); (rotate_left; exact rfl); (refine Hp.bst_all 0 sh rfl rfl rfl HQ.out (BatP.bt_size' rfl) ?_); clear sh; (try clear F); go_simp; intro w1 sh; (have F := sh.fxb))
      | ((with_reducible refine Hp.at_ld 27 ?_); (refine Hp.bld_g 0 sh rfl rfl rfl (by kernel_rfl) (BatP.bt_size HPL.out) ?_); go_simp)
      | ((with_reducible refine Hp.at_st 27 ?_ ?_); (rotate_left; exact rfl); (refine Hp.bst_all 1 sh rfl rfl rfl HQ.out (BatP.bt_size' rfl) ?_); clear sh; (try clear F); go_simp; intro w1 sh; (have F := sh.fxb))
      | ((with_reducible first | refine Hp.wpl_box sh ?_ ?_ | refine Hp.wpa sh ?_ ?_ | refine Hp.atl_store ?_ ?_); exact rfl; (try (refine Hp.wsB sh ?_)); clear sh; (try clear F); go_simp; (first | (have tok := tok_b11; clear tok tok_b11; intro b11 w1 sh) | intro b w1 sh | intro w1 sh); have F := sh.fxb)
      | fail)
  exact bodyPost_ret (Hp.res_ctt rfl rfl (sh.load 1 rfl (by kernel_rfl) (BatP.bt_size HPL.out))) rfl (BatP.GetP.mk HX.out HNL.out sh.below HFR.out sh.data hc9 hcm9 rfl)

theorem bget (s : List UInt8) (hs : s.length ≤ 40000) (w : World) : Calls Tryd.prog 26 #[.string (bstr s)] w fun e w' => BatP.GetP (BatP.getB s) w e w' := by
  cases s with
  | nil => exact bget_nil w
  | cons c l =>
    have hl : l.length ≤ 40000 := by rw [List.length_cons] at hs; omega
    by_cases h66 : c = 66
    · by_cases h4 : l.length < 4
      · exact bget_s c l hl h66 h4 w
      · by_cases hbig : 16384 < BatP.lenOf (c :: l)
        · exact bget_l c l hl h66 (by omega) hbig w
        · by_cases hm : (c :: l).length < 5 + BatP.lenOf (c :: l) + 4
          · exact bget_m c l hl h66 (by omega) (by omega) hm w
          · by_cases hsum : WireP.numOf (((c :: l).drop (5 + BatP.lenOf (c :: l))).take 4) = (CrcP.ofL ((c :: l).take (5 + BatP.lenOf (c :: l)))).toNat
            · cases hr : BatP.readB (((c :: l).take (5 + BatP.lenOf (c :: l))).drop 5) with
              | none => exact bget_r c l hl h66 (by omega) (by omega) hm hsum hr w
              | some b =>
                obtain ⟨f, ls, pv⟩ := b
                exact bget_y c l hl h66 (by omega) (by omega) hm hsum hr w
            · exact bget_x c l hl h66 (by omega) (by omega) hm hsum w
    · exact bget_c c l hl h66 w
end Go.Proofs.YtfcffglgkblidaaDoor