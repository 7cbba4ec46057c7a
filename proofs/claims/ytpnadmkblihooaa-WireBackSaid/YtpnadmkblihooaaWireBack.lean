/-
  The walks of the statements of layer 3, further: what is put is taken again; the order of numbers' bytes.
-/
import Derived.Test.YtpnadmkblihooaaWireLaws
namespace Go.Proofs.Ytpnadmkblihooaa
open Go.RowKit
set_option linter.unusedVariables false
set_option linter.unusedSimpArgs false

theorem WireP.takeText_cases (l : List UInt8) : (∃ e : Int, ¬ e = 0 ∧ WireP.takeTextV l = .tuple #[.string (bstr []), .string (bstr []), .int .i64 e]) ∨
    (∃ c left : List UInt8, WireP.takeTextV l = .tuple #[.string (bstr c), .string (bstr left), .int .i64 0] ∧ c.length ≤ 65536 ∧ WireP.putL c.length ++ c ++ left = l) := by
  unfold WireP.takeTextV
  by_cases h0 : (WireP.takeL l).2.2 = 0
  · rw [if_neg (by simpa using h0)]
    by_cases h1 : 65536 < (WireP.takeL l).1
    · rw [if_pos h1]; exact Or.inl ⟨2, by decide, rfl⟩
    · rw [if_neg h1]
      by_cases h2 : (WireP.takeL l).2.1.length < (WireP.takeL l).1
      · rw [if_pos h2]; exact Or.inl ⟨4, by decide, rfl⟩
      · rw [if_neg h2]
        obtain ⟨hp, _⟩ := WireP.takeL_back l (WireP.takeL l).2.1 (WireP.takeL l).1 (by rw [← h0])
        refine Or.inr ⟨_, _, rfl, by rw [List.length_take]; omega, ?_⟩
        rw [List.length_take, Nat.min_eq_left (by omega), List.append_assoc, List.take_append_drop]
        exact hp
  · rw [if_pos h0]; exact Or.inl ⟨_, h0, rfl⟩

theorem WireP.takeText_put (l s : List UInt8) (h : l.length ≤ 65536) : WireP.takeTextV (WireP.putL l.length ++ l ++ s) = .tuple #[.string (bstr l), .string (bstr s), .int .i64 0] := by
  have ht : WireP.takeL (WireP.putL l.length ++ l ++ s) = (l.length, l ++ s, 0) := by
    rw [List.append_assoc]; exact WireP.takeL_put _ _ (by omega)
  unfold WireP.takeTextV
  rw [ht]
  rw [if_neg (by simp), if_neg (by show ¬ 65536 < l.length; omega), if_neg (by show ¬ (l ++ s).length < l.length; rw [List.length_append]; omega)]
  rw [List.take_left, List.drop_left]

set_option maxHeartbeats 1000000 in
set_option maxRecDepth 100000 in
theorem wireTextBack_walk (t s : ByteArray) (w : World) (ht : t.size ≤ 140737488351232) (hs : s.size ≤ 140737488351232) :
    Calls Try.prog 7 #[.string t, .string s] w fun e w' => e = .returned (.bool true) ∧ Below w.heap.size w w' := by
  by_cases hl : t.size ≤ 70000
  · by_cases hl2 : s.size ≤ 70000
    · have T1 := fun W => wireText_any t W ht
      have T3 := fun W => wireTakeText_any s W hs
      have TC : ∀ c : List UInt8, c.length ≤ 65536 → ∀ W, Calls Try.prog 19 #[.string (bstr c)] W fun e w' => e = .returned (.tuple #[.string (bstr (WireP.putL c.length ++ c)), .int .i64 0]) ∧ Below W.heap.size W w' := by
        intro c hc W
        have := wireText_any (bstr c) W (by rw [bstr_size]; omega)
        rw [bstr_data, WireP.textV, if_neg (by omega)] at this
        exact this
      have HTC := Lib.hid TC
      clear TC
      by_cases h6 : t.size ≤ 65536
      · rw [WireP.textV, WireP.blen, if_neg (by omega)] at T1
        obtain ⟨a, haa⟩ : ∃ a, a = bstr (WireP.putL t.size ++ t.data.toList) := ⟨_, rfl⟩
        have hasz : a.size ≤ 65546 := by
          rw [haa, bstr_size, List.length_append, WireP.blen]
          have := WireP.putL_le10 t.size (by omega)
          omega
        have T2 : ∀ W, Calls Try.prog 21 #[.string (a ++ s)] W fun e w' => e = .returned (.tuple #[.string t, .string s, .int .i64 0]) ∧ Below W.heap.size W w' := by
          intro W
          have := wireTakeText_any (a ++ s) W (by rw [ByteArray.size_append]; omega)
          rw [haa, show (bstr (WireP.putL t.size ++ t.data.toList) ++ s) = bstr (WireP.putL t.size ++ t.data.toList ++ s.data.toList) from bstr_append _ _, bstr_data, ← WireP.blen t, WireP.takeText_put _ _ (by rw [WireP.blen]; exact h6)] at this
          rw [haa, show (bstr (WireP.putL t.size ++ t.data.toList) ++ s) = bstr (WireP.putL t.size ++ t.data.toList ++ s.data.toList) from bstr_append _ _, ← WireP.blen t]
          exact this
        rw [← haa] at T1
        have H1 := Lib.hid T1; have H2 := Lib.hid T2
        have hd : decide ((t.size : Int) ≤ 65536) = true := by rw [decide_eq_true_iff]; omega
        clear T1 T2 haa
        rcases WireP.takeText_cases s.data.toList with ⟨e, he, hv⟩ | ⟨c, left, hv, hc, hback⟩
        · rw [hv] at T3
          have hne := WireP.ne0 he
          have hem := bstr_toList []
          have H3 := Lib.hid T3
          clear T3 hv he
          go_enter Try.func7, Try.ntmps7
          go_wp2_with fail
          refine (H1.out _).mono ?_
          rintro e w1 ⟨rfl, hb1⟩
          go_wp2_with fail
          refine (H2.out _).mono ?_
          rintro e w2 ⟨rfl, hb2⟩
          go_wp2_with fail
          refine (H3.out _).mono ?_
          rintro e w3 ⟨rfl, hb3⟩
          go_wp2_with fail
          refine (wired_any _).mono ?_
          rintro e w4 ⟨rfl, hb4⟩
          go_wp2
          go_ret
          exact ⟨by simp [bstr], (below_step (below_step (below_step hb1 hb2) hb3) hb4)⟩
        · rw [hv] at T3
          have H3 := Lib.hid T3
          have HS : Hid (bstr (WireP.putL c.length ++ c) ++ bstr left = s) := by
            show _ = _; rw [bstr_append, hback]; exact bstr_of s
          have hc1 := bstr_size (WireP.putL c.length ++ c)
          have hc2 : (WireP.putL c.length ++ c).length ≤ 65546 := by rw [List.length_append]; have := WireP.putL_le10 c.length (by omega); omega
          have hc3 : (bstr left).size ≤ 70000 := by
            have := congrArg List.length hback
            rw [List.length_append, WireP.blen] at this
            rw [bstr_size]; omega
          clear T3 hv hback
          go_enter Try.func7, Try.ntmps7
          go_wp2_with fail
          refine (H1.out _).mono ?_
          rintro e w5 ⟨rfl, hb5⟩
          go_wp2_with fail
          refine (H2.out _).mono ?_
          rintro e w6 ⟨rfl, hb6⟩
          go_wp2_with fail
          refine (H3.out _).mono ?_
          rintro e w7 ⟨rfl, hb7⟩
          go_wp2_with fail
          refine (HTC.out c hc _).mono ?_
          rintro e w8 ⟨rfl, hb8⟩
          rw [← hc1] at hc2
          clear hc1
          go_wp2_with fail
          refine (wired_any _).mono ?_
          rintro e w9 ⟨rfl, hb9⟩
          go_wp2
          go_ret
          exact ⟨by rw [HS.out]; simp, (below_step (below_step (below_step (below_step hb5 hb6) hb7) hb8) hb9)⟩
      · have hd : decide ((t.size : Int) ≤ 65536) = false := by rw [decide_eq_false_iff_not]; omega
        rw [WireP.textV, WireP.blen, if_pos (by omega)] at T1
        have h0 : bstr [] ++ s = s := bstr_append [] s.data.toList
        have H1 := Lib.hid T1; have H0 := Lib.hid h0
        obtain ⟨x, y, z, hv0⟩ := WireP.takeTextV_form s.data.toList
        clear T1 h0
        have hz0 : (bstr ([] : List UInt8)).size = 0 := bstr_size []
        rcases WireP.takeText_cases s.data.toList with ⟨e, he, hv⟩ | ⟨c, left, hv, hc, hback⟩
        · rw [hv] at T3
          have hne := WireP.ne0 he
          have hem := bstr_toList []
          have H3 := Lib.hid T3
          clear T3 hv he hv0
          go_enter Try.func7, Try.ntmps7
          go_wp2_with fail
          refine (H1.out _).mono ?_
          rintro e w10 ⟨rfl, hb10⟩
          go_wp2_with fail
          rw [H0.out]
          go_wp2_with fail
          refine (H3.out _).mono ?_
          rintro e w11 ⟨rfl, hb11⟩
          go_wp2_with fail
          refine (H3.out _).mono ?_
          rintro e w12 ⟨rfl, hb12⟩
          go_wp2_with fail
          refine (wired_any _).mono ?_
          rintro e w13 ⟨rfl, hb13⟩
          go_wp2
          go_ret
          exact ⟨by simp [bstr], (below_step (below_step (below_step hb10 hb11) hb12) hb13)⟩
        · rw [hv] at T3
          have H3 := Lib.hid T3
          have HS : Hid (bstr (WireP.putL c.length ++ c) ++ bstr left = s) := by
            show _ = _; rw [bstr_append, hback]; exact bstr_of s
          have hc1 := bstr_size (WireP.putL c.length ++ c)
          have hc2 : (WireP.putL c.length ++ c).length ≤ 65546 := by rw [List.length_append]; have := WireP.putL_le10 c.length (by omega); omega
          have hc3 : (bstr left).size ≤ 70000 := by
            have := congrArg List.length hback
            rw [List.length_append, WireP.blen] at this
            rw [bstr_size]; omega
          clear T3 hv hback hv0
          go_enter Try.func7, Try.ntmps7
          go_wp2_with fail
          refine (H1.out _).mono ?_
          rintro e w14 ⟨rfl, hb14⟩
          go_wp2_with fail
          rw [H0.out]
          go_wp2_with fail
          refine (H3.out _).mono ?_
          rintro e w15 ⟨rfl, hb15⟩
          go_wp2_with fail
          refine (H3.out _).mono ?_
          rintro e w16 ⟨rfl, hb16⟩
          go_wp2_with fail
          refine (HTC.out c hc _).mono ?_
          rintro e w17 ⟨rfl, hb17⟩
          rw [← hc1] at hc2
          clear hc1
          go_wp2_with fail
          refine (wired_any _).mono ?_
          rintro e w18 ⟨rfl, hb18⟩
          go_wp2
          go_ret
          exact ⟨by rw [HS.out]; simp, (below_step (below_step (below_step (below_step hb14 hb15) hb16) hb17) hb18)⟩
    · go_enter Try.func7, Try.ntmps7
      go_wp2
      go_ret
      exact ⟨rfl, Below.refl _ _⟩
  · go_enter Try.func7, Try.ntmps7
    go_wp2
    go_ret
    exact ⟨rfl, Below.refl _ _⟩

set_option maxHeartbeats 1000000 in
set_option maxRecDepth 100000 in
theorem wireOrder_walk (a b : Nat) (w : World) (ha : a < 18446744073709551616) (hb : b < 18446744073709551616) :
    Calls Try.prog 5 #[.int .u64 a, .int .u64 b] w fun e w' => e = .returned (.bool true) ∧ Below w.heap.size w w' := by
  have TA := fun W => wirePut_any a W ha
  have TB := fun W => wirePut_any b W hb
  have la := WireP.putL_pos a; have la2 := WireP.putL_le10 a ha; have lb := WireP.putL_pos b; have lb2 := WireP.putL_le10 b hb
  have ha' : (a : Int) ≤ 18446744073709551615 := by omega
  have hb' : (b : Int) ≤ 18446744073709551615 := by omega
  have ha0 : (0 : Int) ≤ (a : Int) := by omega
  have hb0 : (0 : Int) ≤ (b : Int) := by omega
  have hz := bstr_size (WireP.putL a)
  have hz2 := bstr_size (WireP.putL b)
  by_cases hab : a = b
  · subst hab
    generalize WireP.putL a = X at *
    generalize hXX : bstr X = x at *
    have hx1 : 1 ≤ x.size := by omega
    have hx2 : x.size ≤ 10 := by omega
    have HA := Lib.hid TA
    clear TA TB la lb la2 lb2 hz hz2 ha hb hXX
    go_enter Try.func5, Try.ntmps5
    go_wp2_with fail
    refine (HA.out _).mono ?_
    rintro e w1 ⟨rfl, hb1⟩
    go_wp2_with fail
    refine (HA.out _).mono ?_
    rintro e w2 ⟨rfl, hb2⟩
    go_wp2
    refine wp_region_quiet (C := Bel w2) (by kernel_rfl) (by kernel_rfl) ((Below.refl _ w2).drew) ?_
    simp only []
    (go_big_quiet_want; refine quietB_call _ _ _ (fun W hW => by go_simp) (fun W hW => wired_any W) ?_; simp only [Act.put, List.setIfInBounds_toArray, List.set_cons_zero, List.set_cons_succ]; go_big_quiet_on)
    repeat (first | go_big_quiet_skip | (go_big_quiet_want; go_big_quiet_op; first | go_big_quiet_on | (refine ⟨_, fun _ _ => rfl, ?_⟩; go_big_quiet_on)))
    refine wpQuiet_nil ?_
    intro W hW
    go_wp2
    go_ret
    exact ⟨rfl, below_step (below_step hb1 hb2) hW⟩
  · have hfree := WireP.putL_free a b ha hb _ rfl
    have hinj := WireP.putL_inj a b ha hb
    have hmono := WireP.putL_mono a b
    have hne1 : ((a : Int) == (b : Int)) = false := by rw [beq_eq_false_iff_ne]; omega
    have hne2 := bstr_ne (fun h => hab (hinj h))
    have hcut : (((bstr (WireP.putL a)).extract 0 (min (WireP.putL a).length (WireP.putL b).length)).toList == ((bstr (WireP.putL b)).extract 0 (min (WireP.putL a).length (WireP.putL b).length)).toList) = false := by
      rw [bstr_extract, bstr_extract]
      exact bstr_ne (fun h => hab (hfree (by simpa [bstr_data] using h)))
    generalize WireP.putL a = X at *
    generalize WireP.putL b = Y at *
    rw [← hz, ← hz2] at hcut
    generalize hXX : bstr X = x at *
    generalize hYY : bstr Y = y at *
    have hx1 : 1 ≤ x.size := by omega
    have hx2 : x.size ≤ 10 := by omega
    have hy1 : 1 ≤ y.size := by omega
    have hy2 : y.size ≤ 10 := by omega
    have hm1 : b < a → y.size ≤ x.size := by omega
    have HA := Lib.hid TA
    have HB := Lib.hid TB
    obtain ⟨n, hn⟩ : ∃ n, n = min x.size y.size := ⟨_, rfl⟩
    rw [← hn] at hcut
    have hn1 : n ≤ x.size := by omega
    have hn2 : n ≤ y.size := by omega
    have hmin : ∀ W, (Builtin.min_ #[3, 3] 3 #[.int .i64 x.size, .int .i64 y.size]).run Try.prog W = .ok (.int .i64 n) W := by
      intro W
      rw [hn]
      simp [Builtin.min_, Builtin.min2]
      split <;> omega
    clear TA TB la lb la2 lb2 hz hz2 ha hb hXX hYY hn hfree hinj hmono
    by_cases hgt : b < a
    · have hm2 := hm1 hgt
      have hdn : decide (x.size < y.size) = false := by rw [decide_eq_false_iff_not]; omega
      clear hm1
      go_enter Try.func5, Try.ntmps5
      go_wp2_with fail
      refine (HA.out _).mono ?_
      rintro e w3 ⟨rfl, hb3⟩
      go_wp2_with fail
      refine (HB.out _).mono ?_
      rintro e w4 ⟨rfl, hb4⟩
      go_wp2
      refine wp_region_quiet (C := Bel w4) (by kernel_rfl) (by kernel_rfl) ((Below.refl _ w4).drew) ?_
      simp only []
      (go_big_quiet_want; refine quietB_call _ _ _ (fun W hW => by go_simp) (fun W hW => wired_any W) ?_; simp only [Act.put, List.setIfInBounds_toArray, List.set_cons_zero, List.set_cons_succ]; go_big_quiet_on)
      repeat (first | go_big_quiet_skip | (go_big_quiet_want; go_big_quiet_op; first | go_big_quiet_on | (refine ⟨_, fun _ _ => rfl, ?_⟩; go_big_quiet_on)))
      refine wpQuiet_nil ?_
      intro W hW
      go_wp2
      go_ret
      exact ⟨rfl, below_step (below_step hb3 hb4) hW⟩
    · clear hm1
      go_enter Try.func5, Try.ntmps5
      go_wp2_with fail
      refine (HA.out _).mono ?_
      rintro e w5 ⟨rfl, hb5⟩
      go_wp2_with fail
      refine (HB.out _).mono ?_
      rintro e w6 ⟨rfl, hb6⟩
      go_wp2
      refine wp_region_quiet (C := Bel w6) (by kernel_rfl) (by kernel_rfl) ((Below.refl _ w6).drew) ?_
      simp only []
      (go_big_quiet_want; refine quietB_call _ _ _ (fun W hW => by go_simp) (fun W hW => wired_any W) ?_; simp only [Act.put, List.setIfInBounds_toArray, List.set_cons_zero, List.set_cons_succ]; go_big_quiet_on)
      repeat (first | go_big_quiet_skip | (go_big_quiet_want; go_big_quiet_op; first | go_big_quiet_on | (refine ⟨_, fun _ _ => rfl, ?_⟩; go_big_quiet_on)))
      refine wpQuiet_nil ?_
      intro W hW
      go_wp2
      go_ret
      exact ⟨rfl, below_step (below_step hb5 hb6) hW⟩

theorem WireP.take_cases (l : List UInt8) : (∃ e : Int, (e == 0) = false ∧ WireP.takeV l = .tuple #[.int .u64 0, .string (bstr []), .int .i64 e]) ∨
    (∃ (b : Nat) (left : List UInt8), b < 18446744073709551616 ∧ WireP.takeV l = .tuple #[.int .u64 b, .string (bstr left), .int .i64 0] ∧ WireP.putL b ++ left = l) := by
  rcases WireP.takeGo_err 10 0 0 l with h | h | h | h
  · have h' : (WireP.takeL l).2.2 = 0 := h
    obtain ⟨h1, h2⟩ := WireP.takeL_back l (WireP.takeL l).2.1 (WireP.takeL l).1 (by rw [← h'])
    exact Or.inr ⟨_, _, h2, by rw [WireP.takeV, h'], h1⟩
  · exact Or.inl ⟨6, by decide, WireP.takeV_of (r := (0, [], 6)) h⟩
  · exact Or.inl ⟨4, by decide, WireP.takeV_of (r := (0, [], 4)) h⟩
  · exact Or.inl ⟨3, by decide, WireP.takeV_of (r := (0, [], 3)) h⟩

theorem WireP.fixV_put (n m : Nat) (s : List UInt8) : WireP.fixV (WireP.fixedL n m ++ s) m = .tuple #[.int .u64 ((n % 256 ^ m : Nat) : Int), .string (bstr s), .int .i64 0] := by
  have hl := WireP.fixedL_length n m
  unfold WireP.fixV
  rw [if_neg (by rw [List.length_append]; omega), List.take_left' hl, List.drop_left' hl, WireP.numOf_fixed]

/-- The last part of the statement, behind what has gone ahead: at a width that fits, and at one that does not. -/
theorem WireP.ret_true {b : Bool} (h : b = true) : Ending.returned (.bool b) = .returned (.bool true) := by rw [h]

set_option maxHeartbeats 2000000 in
set_option maxRecDepth 100000 in
theorem wireBack_walk (n : Nat) (width k : Int) (s : ByteArray) (w : World) (hn : n < 18446744073709551616) (hw : -9223372036854775808 ≤ width ∧ width ≤ 9223372036854775807)
    (hk : -9223372036854775808 ≤ k ∧ k ≤ 9223372036854775807) (hs : s.size ≤ 140737488351232) :
    Calls Try.prog 9 #[.int .u64 n, .int .i64 width, .int .i64 k, .string s] w fun e w' => e = .returned (.bool true) ∧ Below w.heap.size w w' := by
  obtain ⟨k1, k2⟩ := hk
  obtain ⟨j1, j2⟩ := hw
  by_cases hl : s.size ≤ 3000
  · have C1 := fun W => wirePut_any n W hn
    have C2 : ∀ W, Calls Try.prog 10 #[.string (bstr (WireP.putL n) ++ s)] W fun e w' => e = .returned (.tuple #[.int .u64 n, .string s, .int .i64 0]) ∧ Below W.heap.size W w' := by
      intro W
      have hp := WireP.putStr_le n hn
      have := wireTake_any (bstr (WireP.putL n) ++ s) W (by rw [ByteArray.size_append]; omega)
      rw [show (bstr (WireP.putL n) ++ s) = bstr (WireP.putL n ++ s.data.toList) from bstr_append _ _, bstr_data, WireP.takeV_of (WireP.takeL_put n s.data.toList hn)] at this
      rw [show (bstr (WireP.putL n) ++ s) = bstr (WireP.putL n ++ s.data.toList) from bstr_append _ _]
      exact this
    have hp := WireP.putStr_le n hn
    generalize bstr (WireP.putL n) = P1 at C1 C2 hp
    have C3 := fun W => wireSign_any k W k1 k2
    have C4 := fun W => wireSigned_any (WireP.sign k) W (WireP.sign_bounds k k1 k2).1 (WireP.sign_bounds k k1 k2).2
    rw [WireP.signed_sign] at C4
    have C5 := fun W => wireSigned_any n W (by omega) (by omega)
    have C6 := fun W => wireSign_any (WireP.signed n) W (WireP.signed_bounds n (by omega) (by omega)).1 (WireP.signed_bounds n (by omega) (by omega)).2
    rw [WireP.sign_signed n (by omega)] at C6
    generalize WireP.sign k = sk at C3 C4
    generalize WireP.signed n = sn at C5 C6
    have C7 := fun W => wireTake_any s W hs
    have H1 := Lib.hid C1; have H2 := Lib.hid C2; have H3 := Lib.hid C3; have H4 := Lib.hid C4; have H5 := Lib.hid C5; have H6 := Lib.hid C6
    clear C1 C2 C3 C4 C5 C6
    have HN := Lib.hid hn
    clear hn
    by_cases hfit : 1 ≤ width ∧ width ≤ 8
    · obtain ⟨m, rfl⟩ := Int.eq_ofNat_of_zero_le (show 0 ≤ width by omega)
      have m1 : 1 ≤ m := by omega
      have m2 : m ≤ 8 := by omega
      have D1 := fun W => wireFixed_yes n m W m1 m2
      have D2 : ∀ W, Calls Try.prog 23 #[.string (bstr (WireP.fixedL n m) ++ s), .int .i64 m] W fun e w' => e = .returned (.tuple #[.int .u64 ((n % 256 ^ m : Nat) : Int), .string s, .int .i64 0]) ∧ Below W.heap.size W w' := by
        intro W
        have hz : (bstr (WireP.fixedL n m)).size = m := by rw [bstr_size, WireP.fixedL_length]
        have := wireTakeFixed_yes (bstr (WireP.fixedL n m) ++ s) m W m1 m2 (by rw [ByteArray.size_append]; omega)
        rw [show (bstr (WireP.fixedL n m) ++ s) = bstr (WireP.fixedL n m ++ s.data.toList) from bstr_append _ _, bstr_data, WireP.fixV_put] at this
        rw [show (bstr (WireP.fixedL n m) ++ s) = bstr (WireP.fixedL n m ++ s.data.toList) from bstr_append _ _]
        exact this
      have D3 := fun W => wireFixed_yes (n % 256 ^ m) m W m1 m2
      rw [WireP.fixed_mod] at D3
      have hz : (bstr (WireP.fixedL n m)).size ≤ 8 := by rw [bstr_size, WireP.fixedL_length]; omega
      have hc : m < 8 ∨ n % 256 ^ m = n := by
        by_cases h8 : m = 8
        · subst h8
          right
          have e : (256 : Nat) ^ 8 = 18446744073709551616 := by decide
          rw [e]; exact Nat.mod_eq_of_lt HN.out
        · left; omega
      generalize bstr (WireP.fixedL n m) = Q at D1 D2 D3 hz
      generalize n % 256 ^ m = c at D2 D3 hc
      have G1 := Lib.hid D1; have G2 := Lib.hid D2; have G3 := Lib.hid D3
      clear D1 D2 D3
      rcases WireP.take_cases s.data.toList with ⟨e, he, hv⟩ | ⟨b, left, hbn, hv, hback⟩
      · rw [hv] at C7
        have H7 := Lib.hid C7
        clear C7 hv
        by_cases h8 : m < 8
        · go_enter Try.func9, Try.ntmps9
          go_wp2_with fail
          refine (H1.out _).mono ?_
          rintro e w1 ⟨rfl, hb1⟩
          go_wp2_with fail
          refine (H2.out _).mono ?_
          rintro e w2 ⟨rfl, hb2⟩
          go_wp2_with fail
          refine (H3.out _).mono ?_
          rintro e w' ⟨rfl, rfl⟩
          go_wp2_with fail
          refine (H4.out _).mono ?_
          rintro e w' ⟨rfl, rfl⟩
          go_wp2_with fail
          refine (H5.out _).mono ?_
          rintro e w' ⟨rfl, rfl⟩
          go_wp2_with fail
          refine (H6.out _).mono ?_
          rintro e w' ⟨rfl, rfl⟩
          go_wp2_with fail
          refine (H7.out _).mono ?_
          rintro e w3 ⟨rfl, hb3⟩
          go_wp2_with fail
          refine (G1.out _).mono ?_
          rintro e w4 ⟨rfl, hb4⟩
          go_wp2_with fail
          refine (G2.out _).mono ?_
          rintro e w5 ⟨rfl, hb5⟩
          go_wp2_with fail
          refine (wired_any _).mono ?_
          rintro e w6 ⟨rfl, hb6⟩
          go_wp2_with fail
          refine (G3.out _).mono ?_
          rintro e w7 ⟨rfl, hb7⟩
          go_wp2_with fail
          refine (G1.out _).mono ?_
          rintro e w8 ⟨rfl, hb8⟩
          go_wp2
          go_ret
          exact ⟨by simp, (below_step (below_step (below_step (below_step (below_step (below_step (below_step hb1 hb2) hb3) hb4) hb5) hb6) hb7) hb8)⟩
        · obtain rfl : c = n := by rcases hc with h | h <;> omega
          go_enter Try.func9, Try.ntmps9
          go_wp2_with fail
          refine (H1.out _).mono ?_
          rintro e w9 ⟨rfl, hb9⟩
          go_wp2_with fail
          refine (H2.out _).mono ?_
          rintro e w10 ⟨rfl, hb10⟩
          go_wp2_with fail
          refine (H3.out _).mono ?_
          rintro e w' ⟨rfl, rfl⟩
          go_wp2_with fail
          refine (H4.out _).mono ?_
          rintro e w' ⟨rfl, rfl⟩
          go_wp2_with fail
          refine (H5.out _).mono ?_
          rintro e w' ⟨rfl, rfl⟩
          go_wp2_with fail
          refine (H6.out _).mono ?_
          rintro e w' ⟨rfl, rfl⟩
          go_wp2_with fail
          refine (H7.out _).mono ?_
          rintro e w11 ⟨rfl, hb11⟩
          go_wp2_with fail
          refine (G1.out _).mono ?_
          rintro e w12 ⟨rfl, hb12⟩
          go_wp2_with fail
          refine (G2.out _).mono ?_
          rintro e w13 ⟨rfl, hb13⟩
          go_wp2_with fail
          refine (wired_any _).mono ?_
          rintro e w14 ⟨rfl, hb14⟩
          go_wp2_with fail
          refine (G3.out _).mono ?_
          rintro e w15 ⟨rfl, hb15⟩
          go_wp2_with fail
          refine (G1.out _).mono ?_
          rintro e w16 ⟨rfl, hb16⟩
          go_wp2
          go_ret
          exact ⟨by simp, (below_step (below_step (below_step (below_step (below_step (below_step (below_step hb9 hb10) hb11) hb12) hb13) hb14) hb15) hb16)⟩
      · rw [hv] at C7
        have hbs : (bstr (WireP.putL b)).size ≤ 10 := WireP.putStr_le b hbn
        have hls : (bstr left).size ≤ s.size := by
          have := congrArg List.length hback
          rw [List.length_append, WireP.blen] at this
          rw [bstr_size]; omega
        have HS : bstr (WireP.putL b) ++ bstr left = s := by rw [bstr_append, hback]; exact bstr_of s
        have C8 := fun W => wirePut_any b W hbn
        generalize bstr (WireP.putL b) = P2 at *
        generalize bstr left = L2 at *
        have H7 := Lib.hid C7; have H8 := Lib.hid C8
        clear C7 C8 hv hback hbn
        by_cases h8 : m < 8
        · go_enter Try.func9, Try.ntmps9
          go_wp2_with fail
          refine (H1.out _).mono ?_
          rintro e w17 ⟨rfl, hb17⟩
          go_wp2_with fail
          refine (H2.out _).mono ?_
          rintro e w18 ⟨rfl, hb18⟩
          go_wp2_with fail
          refine (H3.out _).mono ?_
          rintro e w' ⟨rfl, rfl⟩
          go_wp2_with fail
          refine (H4.out _).mono ?_
          rintro e w' ⟨rfl, rfl⟩
          go_wp2_with fail
          refine (H5.out _).mono ?_
          rintro e w' ⟨rfl, rfl⟩
          go_wp2_with fail
          refine (H6.out _).mono ?_
          rintro e w' ⟨rfl, rfl⟩
          go_wp2_with fail
          refine (H7.out _).mono ?_
          rintro e w19 ⟨rfl, hb19⟩
          go_wp2_with fail
          refine (H8.out _).mono ?_
          rintro e w20 ⟨rfl, hb20⟩
          go_wp2_with fail
          refine (G1.out _).mono ?_
          rintro e w21 ⟨rfl, hb21⟩
          go_wp2_with fail
          refine (G2.out _).mono ?_
          rintro e w22 ⟨rfl, hb22⟩
          go_wp2_with fail
          refine (wired_any _).mono ?_
          rintro e w23 ⟨rfl, hb23⟩
          go_wp2_with fail
          refine (G3.out _).mono ?_
          rintro e w24 ⟨rfl, hb24⟩
          go_wp2_with fail
          refine (G1.out _).mono ?_
          rintro e w25 ⟨rfl, hb25⟩
          go_wp2
          go_ret
          exact ⟨by simp, (below_step (below_step (below_step (below_step (below_step (below_step (below_step (below_step hb17 hb18) hb19) hb20) hb21) hb22) hb23) hb24) hb25)⟩
        · obtain rfl : c = n := by rcases hc with h | h <;> omega
          go_enter Try.func9, Try.ntmps9
          go_wp2_with fail
          refine (H1.out _).mono ?_
          rintro e w26 ⟨rfl, hb26⟩
          go_wp2_with fail
          refine (H2.out _).mono ?_
          rintro e w27 ⟨rfl, hb27⟩
          go_wp2_with fail
          refine (H3.out _).mono ?_
          rintro e w' ⟨rfl, rfl⟩
          go_wp2_with fail
          refine (H4.out _).mono ?_
          rintro e w' ⟨rfl, rfl⟩
          go_wp2_with fail
          refine (H5.out _).mono ?_
          rintro e w' ⟨rfl, rfl⟩
          go_wp2_with fail
          refine (H6.out _).mono ?_
          rintro e w' ⟨rfl, rfl⟩
          go_wp2_with fail
          refine (H7.out _).mono ?_
          rintro e w28 ⟨rfl, hb28⟩
          go_wp2_with fail
          refine (H8.out _).mono ?_
          rintro e w29 ⟨rfl, hb29⟩
          go_wp2_with fail
          refine (G1.out _).mono ?_
          rintro e w30 ⟨rfl, hb30⟩
          go_wp2_with fail
          refine (G2.out _).mono ?_
          rintro e w31 ⟨rfl, hb31⟩
          go_wp2_with fail
          refine (wired_any _).mono ?_
          rintro e w32 ⟨rfl, hb32⟩
          go_wp2_with fail
          refine (G3.out _).mono ?_
          rintro e w33 ⟨rfl, hb33⟩
          go_wp2_with fail
          refine (G1.out _).mono ?_
          rintro e w34 ⟨rfl, hb34⟩
          go_wp2
          go_ret
          exact ⟨by simp, (below_step (below_step (below_step (below_step (below_step (below_step (below_step (below_step hb26 hb27) hb28) hb29) hb30) hb31) hb32) hb33) hb34)⟩
    · have hno : width < 1 ∨ 8 < width := by omega
      have D1 := fun W => wireFixed_no n width W hno
      have D2 := fun W => wireTakeFixed_no s width W hno
      have happ : bstr [] ++ s = s := bstr_append [] s.data.toList
      have hz : (bstr ([] : List UInt8)).size ≤ 0 := by rw [bstr_size]; simp
      have hem := bstr_toList []
      have G1 := Lib.hid D1; have G2 := Lib.hid D2
      clear D1 D2 hfit
      rcases WireP.take_cases s.data.toList with ⟨e, he, hv⟩ | ⟨b, left, hbn, hv, hback⟩
      · rw [hv] at C7
        have H7 := Lib.hid C7
        clear C7 hv
        rcases hno with hno | hno
        · go_enter Try.func9, Try.ntmps9
          go_wp2_with fail
          refine (H1.out _).mono ?_
          rintro e w35 ⟨rfl, hb35⟩
          go_wp2_with fail
          refine (H2.out _).mono ?_
          rintro e w36 ⟨rfl, hb36⟩
          go_wp2_with fail
          refine (H3.out _).mono ?_
          rintro e w' ⟨rfl, rfl⟩
          go_wp2_with fail
          refine (H4.out _).mono ?_
          rintro e w' ⟨rfl, rfl⟩
          go_wp2_with fail
          refine (H5.out _).mono ?_
          rintro e w' ⟨rfl, rfl⟩
          go_wp2_with fail
          refine (H6.out _).mono ?_
          rintro e w' ⟨rfl, rfl⟩
          go_wp2_with fail
          refine (H7.out _).mono ?_
          rintro e w37 ⟨rfl, hb37⟩
          go_wp2_with fail
          refine (G1.out _).mono ?_
          rintro e w' ⟨rfl, rfl⟩
          go_wp2_with fail
          refine (G2.out _).mono ?_
          rintro e w' ⟨rfl, rfl⟩
          go_wp2_with fail
          refine (wired_any _).mono ?_
          rintro e w38 ⟨rfl, hb38⟩
          go_wp2_with fail
          refine (G1.out _).mono ?_
          rintro e w' ⟨rfl, rfl⟩
          go_wp2
          go_ret
          exact ⟨by simp, (below_step (below_step (below_step hb35 hb36) hb37) hb38)⟩
        · go_enter Try.func9, Try.ntmps9
          go_wp2_with fail
          refine (H1.out _).mono ?_
          rintro e w39 ⟨rfl, hb39⟩
          go_wp2_with fail
          refine (H2.out _).mono ?_
          rintro e w40 ⟨rfl, hb40⟩
          go_wp2_with fail
          refine (H3.out _).mono ?_
          rintro e w' ⟨rfl, rfl⟩
          go_wp2_with fail
          refine (H4.out _).mono ?_
          rintro e w' ⟨rfl, rfl⟩
          go_wp2_with fail
          refine (H5.out _).mono ?_
          rintro e w' ⟨rfl, rfl⟩
          go_wp2_with fail
          refine (H6.out _).mono ?_
          rintro e w' ⟨rfl, rfl⟩
          go_wp2_with fail
          refine (H7.out _).mono ?_
          rintro e w41 ⟨rfl, hb41⟩
          go_wp2_with fail
          refine (G1.out _).mono ?_
          rintro e w' ⟨rfl, rfl⟩
          go_wp2_with fail
          refine (G2.out _).mono ?_
          rintro e w' ⟨rfl, rfl⟩
          go_wp2_with fail
          refine (wired_any _).mono ?_
          rintro e w42 ⟨rfl, hb42⟩
          go_wp2_with fail
          refine (G1.out _).mono ?_
          rintro e w' ⟨rfl, rfl⟩
          go_wp2
          go_ret
          exact ⟨by simp, (below_step (below_step (below_step hb39 hb40) hb41) hb42)⟩
      · rw [hv] at C7
        have hbs : (bstr (WireP.putL b)).size ≤ 10 := WireP.putStr_le b hbn
        have hls : (bstr left).size ≤ s.size := by
          have := congrArg List.length hback
          rw [List.length_append, WireP.blen] at this
          rw [bstr_size]; omega
        have HS : bstr (WireP.putL b) ++ bstr left = s := by rw [bstr_append, hback]; exact bstr_of s
        have C8 := fun W => wirePut_any b W hbn
        generalize bstr (WireP.putL b) = P2 at hbs HS C8
        generalize bstr left = L2 at C7 hls HS
        have H7 := Lib.hid C7; have H8 := Lib.hid C8
        clear C7 C8 hv hback hbn
        rcases hno with hno | hno
        · go_enter Try.func9, Try.ntmps9
          go_wp2_with fail
          refine (H1.out _).mono ?_
          rintro e w43 ⟨rfl, hb43⟩
          go_wp2_with fail
          refine (H2.out _).mono ?_
          rintro e w44 ⟨rfl, hb44⟩
          go_wp2_with fail
          refine (H3.out _).mono ?_
          rintro e w' ⟨rfl, rfl⟩
          go_wp2_with fail
          refine (H4.out _).mono ?_
          rintro e w' ⟨rfl, rfl⟩
          go_wp2_with fail
          refine (H5.out _).mono ?_
          rintro e w' ⟨rfl, rfl⟩
          go_wp2_with fail
          refine (H6.out _).mono ?_
          rintro e w' ⟨rfl, rfl⟩
          go_wp2_with fail
          refine (H7.out _).mono ?_
          rintro e w45 ⟨rfl, hb45⟩
          go_wp2_with fail
          refine (H8.out _).mono ?_
          rintro e w46 ⟨rfl, hb46⟩
          go_wp2_with fail
          refine (G1.out _).mono ?_
          rintro e w' ⟨rfl, rfl⟩
          go_wp2_with fail
          refine (G2.out _).mono ?_
          rintro e w' ⟨rfl, rfl⟩
          go_wp2_with fail
          refine (wired_any _).mono ?_
          rintro e w47 ⟨rfl, hb47⟩
          go_wp2_with fail
          refine (G1.out _).mono ?_
          rintro e w' ⟨rfl, rfl⟩
          go_wp2
          go_ret
          exact ⟨by simp, (below_step (below_step (below_step (below_step hb43 hb44) hb45) hb46) hb47)⟩
        · go_enter Try.func9, Try.ntmps9
          go_wp2_with fail
          refine (H1.out _).mono ?_
          rintro e w48 ⟨rfl, hb48⟩
          go_wp2_with fail
          refine (H2.out _).mono ?_
          rintro e w49 ⟨rfl, hb49⟩
          go_wp2_with fail
          refine (H3.out _).mono ?_
          rintro e w' ⟨rfl, rfl⟩
          go_wp2_with fail
          refine (H4.out _).mono ?_
          rintro e w' ⟨rfl, rfl⟩
          go_wp2_with fail
          refine (H5.out _).mono ?_
          rintro e w' ⟨rfl, rfl⟩
          go_wp2_with fail
          refine (H6.out _).mono ?_
          rintro e w' ⟨rfl, rfl⟩
          go_wp2_with fail
          refine (H7.out _).mono ?_
          rintro e w50 ⟨rfl, hb50⟩
          go_wp2_with fail
          refine (H8.out _).mono ?_
          rintro e w51 ⟨rfl, hb51⟩
          go_wp2_with fail
          refine (G1.out _).mono ?_
          rintro e w' ⟨rfl, rfl⟩
          go_wp2_with fail
          refine (G2.out _).mono ?_
          rintro e w' ⟨rfl, rfl⟩
          go_wp2_with fail
          refine (wired_any _).mono ?_
          rintro e w52 ⟨rfl, hb52⟩
          go_wp2_with fail
          refine (G1.out _).mono ?_
          rintro e w' ⟨rfl, rfl⟩
          go_wp2
          go_ret
          exact ⟨by simp, (below_step (below_step (below_step (below_step hb48 hb49) hb50) hb51) hb52)⟩
  · go_enter Try.func9, Try.ntmps9
    go_wp2
    go_ret
    exact ⟨rfl, Below.refl _ _⟩

end Go.Proofs.Ytpnadmkblihooaa
