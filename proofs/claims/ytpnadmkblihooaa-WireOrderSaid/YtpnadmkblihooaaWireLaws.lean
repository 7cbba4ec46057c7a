/-
  The walks of the statements of layer 3: each answers true, and writes nothing that was there.
-/
import Derived.Test.YtpnadmkblihooaaWireTexts
namespace Go.Proofs.Ytpnadmkblihooaa
open Go.RowKit
set_option linter.unusedVariables false
set_option linter.unusedSimpArgs false

theorem WireP.take_a : WireP.takeV [172, 2, 7] = .tuple #[.int .u64 300, .string ⟨#[7]⟩, .int .i64 0] := by rfl
theorem WireP.take_b : WireP.takeV [128, 0] = .tuple #[.int .u64 0, .string ⟨#[]⟩, .int .i64 3] := by rfl
theorem WireP.put_a : bstr (WireP.putL 300) = ⟨#[172, 2]⟩ := by
  rw [WireP.putL_big (by omega), WireP.putL_small (by omega)]; rfl

set_option maxHeartbeats 400000 in
set_option maxRecDepth 100000 in
theorem wired_any (w : World) :
    Calls Try.prog 12 #[] w fun e w' => e = .returned (.bool true) ∧ Below w.heap.size w w' := by
  have HA := Lib.hid WireP.take_a
  have HB := Lib.hid WireP.take_b
  have HP := Lib.hid WireP.put_a
  go_enter Try.func12, Try.ntmps12
  go_wp2_with fail
  refine (wireTake_any _ _ (by decide)).mono ?_
  rintro e w1 ⟨rfl, hb1⟩
  rw [show (ByteArray.mk #[172, 2, 7]).data.toList = [172, 2, 7] from rfl, HA.out]
  go_wp2_with fail
  refine (wireTake_any _ _ (by decide)).mono ?_
  rintro e w2 ⟨rfl, hb2⟩
  rw [show (ByteArray.mk #[128, 0]).data.toList = [128, 0] from rfl, HB.out]
  go_wp2_with fail
  refine (wirePut_any 300 _ (by omega)).mono ?_
  rintro e w3 ⟨rfl, hb3⟩
  rw [HP.out]
  go_wp2_with fail
  refine (wireSign_any _ _ (by omega) (by omega)).mono ?_
  rintro e w' ⟨rfl, rfl⟩
  rw [show WireP.sign (-1) = 1 from rfl]
  go_wp2_with fail
  refine (wireSign_any _ _ (by omega) (by omega)).mono ?_
  rintro e w' ⟨rfl, rfl⟩
  rw [show WireP.sign 1 = 2 from rfl]
  go_wp2_with fail
  refine (wireSigned_any _ _ (by omega) (by omega)).mono ?_
  rintro e w' ⟨rfl, rfl⟩
  rw [show WireP.signed 1 = -1 from rfl]
  go_wp2
  go_ret
  exact ⟨rfl, (below_step (below_step hb1 hb2) hb3)⟩

theorem exU64 (a : Int) (h : (Lit.int .u64 a).wf = true) : ∃ n : Nat, a = (n : Int) ∧ n < 18446744073709551616 := by
  have hb : 0 ≤ a ∧ a ≤ 18446744073709551615 := by simpa [Lit.wf, IntKind.min, IntKind.max, IntKind.signed, IntKind.bits] using h
  obtain ⟨n, rfl⟩ := Int.eq_ofNat_of_zero_le hb.1
  exact ⟨n, rfl, by omega⟩
theorem exI64 (a : Int) (h : (Lit.int .i64 a).wf = true) : -9223372036854775808 ≤ a ∧ a ≤ 9223372036854775807 := by
  simpa [Lit.wf, IntKind.min, IntKind.max, IntKind.signed, IntKind.bits] using h

set_option maxHeartbeats 1000000 in
set_option maxRecDepth 100000 in
theorem wireNumbers_walk (n : Nat) (s : ByteArray) (w : World) (hn : n < 18446744073709551616) (hs : s.size ≤ 140737488351232) :
    Calls Try.prog 3 #[.int .u64 n, .string s] w fun e w' => e = .returned (.bool true) ∧ Below w.heap.size w w' := by
  have HN := Lib.hid hn
  clear hn
  by_cases hl : s.size ≤ 3000
  · have hT := fun W => wireTake_any s W hs
    have hR := fun W => wireRefTake_any s W hs
    unfold WireP.takeV at hT hR
    generalize (WireP.takeL s.data.toList).1 = x at hT hR
    generalize bstr (WireP.takeL s.data.toList).2.1 = y at hT hR
    generalize (WireP.takeL s.data.toList).2.2 = z at hT hR
    have HT := Lib.hid hT
    have HR := Lib.hid hR
    clear hT hR
    go_enter Try.func3, Try.ntmps3
    go_wp2_with fail
    refine (HT.out _).mono ?_
    rintro e w1 ⟨rfl, hb1⟩
    go_wp2_with fail
    refine (HR.out _).mono ?_
    rintro e w2 ⟨rfl, hb2⟩
    go_wp2_with fail
    refine (wired_any _).mono ?_
    rintro e w3 ⟨rfl, hb3⟩
    go_wp2_with fail
    refine (wirePut_any _ _ HN.out).mono ?_
    rintro e w4 ⟨rfl, hb4⟩
    go_wp2_with fail
    refine (wireRefPut_any _ _ HN.out).mono ?_
    rintro e w5 ⟨rfl, hb5⟩
    go_wp2
    go_ret
    exact ⟨by simp, (below_step (below_step (below_step (below_step hb1 hb2) hb3) hb4) hb5)⟩
  · go_enter Try.func3, Try.ntmps3
    go_wp2
    go_ret
    exact ⟨rfl, Below.refl _ _⟩

set_option maxHeartbeats 1000000 in
set_option maxRecDepth 100000 in
theorem wireSigns_walk (k j : Int) (n : Nat) (w : World) (hk : -9223372036854775808 ≤ k ∧ k ≤ 9223372036854775807) (hj : -9223372036854775808 ≤ j ∧ j ≤ 9223372036854775807) (hn : n < 18446744073709551616) :
    Calls Try.prog 4 #[.int .i64 k, .int .i64 j, .int .u64 n] w fun e w' => e = .returned (.bool true) ∧ Below w.heap.size w w' := by
  obtain ⟨k1, k2⟩ := hk
  obtain ⟨j1, j2⟩ := hj
  have n1 : (0 : Int) ≤ (n : Int) := by omega
  have n2 : (n : Int) ≤ 18446744073709551615 := by omega
  have SK := fun W => wireSign_any k W k1 k2
  have RK := fun W => wireRefSign_any k W k1 k2
  have SJ := fun W => wireSign_any j W j1 j2
  have GN := fun W => wireSigned_any n W n1 n2
  have RN := fun W => wireRefSigned_any n W n1 n2
  by_cases hne : (0 ≤ k ∧ k ≤ j) ∨ (k < 0 ∧ j ≤ k)
  · have hle := WireP.sign_near k j hne
    generalize WireP.sign k = a at *
    generalize WireP.sign j = b at *
    generalize WireP.signed n = c at *
    have HSK := Lib.hid SK; have HRK := Lib.hid RK; have HSJ := Lib.hid SJ; have HGN := Lib.hid GN; have HRN := Lib.hid RN
    clear SK RK SJ GN RN
    rcases hne with ⟨h1, h2⟩ | ⟨h1, h2⟩
    · have hd : decide (k < 0) = false := by rw [decide_eq_false_iff_not]; omega
      go_enter Try.func4, Try.ntmps4
      go_wp2_with fail
      refine (wired_any _).mono ?_
      rintro e w1 ⟨rfl, hb1⟩
      go_wp2_with fail
      refine (HSK.out _).mono ?_
      rintro e w' ⟨rfl, rfl⟩
      go_wp2_with fail
      refine (HRK.out _).mono ?_
      rintro e w' ⟨rfl, rfl⟩
      go_wp2_with fail
      refine (HGN.out _).mono ?_
      rintro e w' ⟨rfl, rfl⟩
      go_wp2_with fail
      refine (HRN.out _).mono ?_
      rintro e w' ⟨rfl, rfl⟩
      go_wp2_with fail
      refine (HSK.out _).mono ?_
      rintro e w' ⟨rfl, rfl⟩
      go_wp2_with fail
      refine (HSJ.out _).mono ?_
      rintro e w' ⟨rfl, rfl⟩
      go_wp2
      go_ret
      exact ⟨by simp, hb1⟩
    · have hd : decide (0 ≤ k) = false := by rw [decide_eq_false_iff_not]; omega
      go_enter Try.func4, Try.ntmps4
      go_wp2_with fail
      refine (wired_any _).mono ?_
      rintro e w2 ⟨rfl, hb2⟩
      go_wp2_with fail
      refine (HSK.out _).mono ?_
      rintro e w' ⟨rfl, rfl⟩
      go_wp2_with fail
      refine (HRK.out _).mono ?_
      rintro e w' ⟨rfl, rfl⟩
      go_wp2_with fail
      refine (HGN.out _).mono ?_
      rintro e w' ⟨rfl, rfl⟩
      go_wp2_with fail
      refine (HRN.out _).mono ?_
      rintro e w' ⟨rfl, rfl⟩
      go_wp2_with fail
      refine (HSK.out _).mono ?_
      rintro e w' ⟨rfl, rfl⟩
      go_wp2_with fail
      refine (HSJ.out _).mono ?_
      rintro e w' ⟨rfl, rfl⟩
      go_wp2
      go_ret
      exact ⟨by simp, hb2⟩
  · generalize WireP.sign k = a at *
    generalize WireP.signed n = c at *
    have HSK := Lib.hid SK; have HRK := Lib.hid RK; have HGN := Lib.hid GN; have HRN := Lib.hid RN
    clear SK RK SJ GN RN
    by_cases h0 : 0 ≤ k
    · have h1 : j < k := by omega
      have hd : decide (k < 0) = false := by rw [decide_eq_false_iff_not]; omega
      have hd2 : decide (k ≤ j) = false := by rw [decide_eq_false_iff_not]; omega
      clear hne
      go_enter Try.func4, Try.ntmps4
      go_wp2_with fail
      refine (wired_any _).mono ?_
      rintro e w3 ⟨rfl, hb3⟩
      go_wp2_with fail
      refine (HSK.out _).mono ?_
      rintro e w' ⟨rfl, rfl⟩
      go_wp2_with fail
      refine (HRK.out _).mono ?_
      rintro e w' ⟨rfl, rfl⟩
      go_wp2_with fail
      refine (HGN.out _).mono ?_
      rintro e w' ⟨rfl, rfl⟩
      go_wp2_with fail
      refine (HRN.out _).mono ?_
      rintro e w' ⟨rfl, rfl⟩
      go_wp2
      go_ret
      exact ⟨by simp, hb3⟩
    · have h1 : k < j := by omega
      have hd : decide (0 ≤ k) = false := by rw [decide_eq_false_iff_not]; omega
      have hd2 : decide (j ≤ k) = false := by rw [decide_eq_false_iff_not]; omega
      clear hne
      go_enter Try.func4, Try.ntmps4
      go_wp2_with fail
      refine (wired_any _).mono ?_
      rintro e w4 ⟨rfl, hb4⟩
      go_wp2_with fail
      refine (HSK.out _).mono ?_
      rintro e w' ⟨rfl, rfl⟩
      go_wp2_with fail
      refine (HRK.out _).mono ?_
      rintro e w' ⟨rfl, rfl⟩
      go_wp2_with fail
      refine (HGN.out _).mono ?_
      rintro e w' ⟨rfl, rfl⟩
      go_wp2_with fail
      refine (HRN.out _).mono ?_
      rintro e w' ⟨rfl, rfl⟩
      go_wp2
      go_ret
      exact ⟨by simp, hb4⟩

theorem WireP.textV_form (l : List UInt8) : ∃ (a : ByteArray) (e : Int), WireP.textV l = .tuple #[.string a, .int .i64 e] := by
  unfold WireP.textV; split <;> exact ⟨_, _, rfl⟩
theorem WireP.takeTextV_form (l : List UInt8) : ∃ (a b : ByteArray) (e : Int), WireP.takeTextV l = .tuple #[.string a, .string b, .int .i64 e] := by
  unfold WireP.takeTextV; split
  · exact ⟨_, _, _, rfl⟩
  · split
    · exact ⟨_, _, _, rfl⟩
    · split <;> exact ⟨_, _, _, rfl⟩
theorem WireP.fixV_form (l : List UInt8) (n : Nat) : ∃ (x : Int) (b : ByteArray) (e : Int), WireP.fixV l n = .tuple #[.int .u64 x, .string b, .int .i64 e] := by
  unfold WireP.fixV; split <;> exact ⟨_, _, _, rfl⟩

set_option maxHeartbeats 1000000 in
set_option maxRecDepth 100000 in
theorem wireTexts_walk (t s : ByteArray) (w : World) (ht : t.size ≤ 140737488351232) (hs : s.size ≤ 140737488351232) :
    Calls Try.prog 6 #[.string t, .string s] w fun e w' => e = .returned (.bool true) ∧ Below w.heap.size w w' := by
  by_cases hl : t.size ≤ 70000
  · by_cases hl2 : s.size ≤ 70000
    · have T1 := fun W => wireText_any t W ht
      have T2 := fun W => wireRefText_any t W ht
      have T3 := fun W => wireTakeText_any s W hs
      have T4 := fun W => wireRefTakeText_any s W hs
      obtain ⟨a, e, h1⟩ := WireP.textV_form t.data.toList
      obtain ⟨b, c, f, h2⟩ := WireP.takeTextV_form s.data.toList
      rw [h1] at T1 T2
      rw [h2] at T3 T4
      have H1 := Lib.hid T1; have H2 := Lib.hid T2; have H3 := Lib.hid T3; have H4 := Lib.hid T4
      clear T1 T2 T3 T4 h1 h2
      go_enter Try.func6, Try.ntmps6
      go_wp2_with fail
      refine (H1.out _).mono ?_
      rintro e w1 ⟨rfl, hb1⟩
      go_wp2_with fail
      refine (H2.out _).mono ?_
      rintro e w2 ⟨rfl, hb2⟩
      go_wp2_with fail
      refine (H3.out _).mono ?_
      rintro e w3 ⟨rfl, hb3⟩
      go_wp2_with fail
      refine (H4.out _).mono ?_
      rintro e w4 ⟨rfl, hb4⟩
      go_wp2_with fail
      refine (wired_any _).mono ?_
      rintro e w5 ⟨rfl, hb5⟩
      go_wp2
      go_ret
      exact ⟨by simp, (below_step (below_step (below_step (below_step hb1 hb2) hb3) hb4) hb5)⟩
    · go_enter Try.func6, Try.ntmps6
      go_wp2
      go_ret
      exact ⟨rfl, Below.refl _ _⟩
  · go_enter Try.func6, Try.ntmps6
    go_wp2
    go_ret
    exact ⟨rfl, Below.refl _ _⟩

set_option maxHeartbeats 1000000 in
set_option maxRecDepth 100000 in
theorem wireWidths_walk (n : Nat) (s : ByteArray) (width : Int) (w : World) (hn : n < 18446744073709551616) (hs : s.size ≤ 140737488351232) (hw : -9223372036854775808 ≤ width ∧ width ≤ 9223372036854775807) :
    Calls Try.prog 8 #[.int .u64 n, .string s, .int .i64 width] w fun e w' => e = .returned (.bool true) ∧ Below w.heap.size w w' := by
  have HN := Lib.hid hn
  clear hn
  by_cases hl : s.size ≤ 3000
  · by_cases hfit : 1 ≤ width ∧ width ≤ 8
    · obtain ⟨k, rfl⟩ := Int.eq_ofNat_of_zero_le (show 0 ≤ width by omega)
      have T1 := fun W => wireTakeFixed_yes s k W (by omega) (by omega) hs
      have T2 := fun W => wireRefTakeFixed_yes s k W (by omega) (by omega) hs
      have T3 := fun W => wireFixed_yes n k W (by omega) (by omega)
      have T4 := fun W => wireRefFixed_yes n k W (by omega) (by omega)
      obtain ⟨x, b, e, h1⟩ := WireP.fixV_form s.data.toList k
      rw [h1] at T1 T2
      generalize bstr (WireP.fixedL n k) = q at T3 T4
      have H1 := Lib.hid T1; have H2 := Lib.hid T2; have H3 := Lib.hid T3; have H4 := Lib.hid T4
      clear T1 T2 T3 T4 h1
      go_enter Try.func8, Try.ntmps8
      go_wp2_with fail
      refine (H1.out _).mono ?_
      rintro e w1 ⟨rfl, hb1⟩
      go_wp2_with fail
      refine (H2.out _).mono ?_
      rintro e w2 ⟨rfl, hb2⟩
      go_wp2_with fail
      refine (wired_any _).mono ?_
      rintro e w3 ⟨rfl, hb3⟩
      go_wp2_with fail
      refine (H3.out _).mono ?_
      rintro e w4 ⟨rfl, hb4⟩
      go_wp2_with fail
      refine (H4.out _).mono ?_
      rintro e w5 ⟨rfl, hb5⟩
      go_wp2
      go_ret
      exact ⟨by simp, (below_step (below_step (below_step (below_step hb1 hb2) hb3) hb4) hb5)⟩
    · have hno : width < 1 ∨ 8 < width := by omega
      have HNO := Lib.hid hno
      clear hfit hno
      go_enter Try.func8, Try.ntmps8
      go_wp2_with fail
      refine (wireTakeFixed_no _ _ _ HNO.out).mono ?_
      rintro e w' ⟨rfl, rfl⟩
      go_wp2_with fail
      refine (wireRefTakeFixed_no _ _ _ HNO.out).mono ?_
      rintro e w' ⟨rfl, rfl⟩
      go_wp2_with fail
      refine (wired_any _).mono ?_
      rintro e w6 ⟨rfl, hb6⟩
      go_wp2_with fail
      refine (wireFixed_no _ _ _ HNO.out).mono ?_
      rintro e w' ⟨rfl, rfl⟩
      go_wp2_with fail
      refine (wireRefFixed_no _ _ _ HNO.out).mono ?_
      rintro e w' ⟨rfl, rfl⟩
      go_wp2
      go_ret
      exact ⟨by simp, hb6⟩
  · go_enter Try.func8, Try.ntmps8
    go_wp2
    go_ret
    exact ⟨rfl, Below.refl _ _⟩

end Go.Proofs.Ytpnadmkblihooaa
