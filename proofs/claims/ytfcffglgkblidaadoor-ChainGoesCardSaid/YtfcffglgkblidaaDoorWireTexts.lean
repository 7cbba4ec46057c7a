
/-
  The walks of package wire and of its reference, further: texts, and numbers of a width.
-/
import Derived.Test.YtfcffglgkblidaaDoorWireWalks
namespace Go.Proofs.YtfcffglgkblidaaDoor
open Go.RowKit
set_option linter.unusedVariables false
set_option linter.unusedSimpArgs false

/-- What Text and TakeText answer, as values. -/
def WireP.textV (l : List UInt8) : Value := if 65536 < l.length then .tuple #[.string (bstr []), .int .i64 2] else .tuple #[.string (bstr (WireP.putL l.length ++ l)), .int .i64 0]
def WireP.takeTextV (l : List UInt8) : Value :=
  if (WireP.takeL l).2.2 ≠ 0 then .tuple #[.string (bstr []), .string (bstr []), .int .i64 (WireP.takeL l).2.2]
  else if 65536 < (WireP.takeL l).1 then .tuple #[.string (bstr []), .string (bstr []), .int .i64 2]
  else if (WireP.takeL l).2.1.length < (WireP.takeL l).1 then .tuple #[.string (bstr []), .string (bstr []), .int .i64 4]
  else .tuple #[.string (bstr ((WireP.takeL l).2.1.take (WireP.takeL l).1)), .string (bstr ((WireP.takeL l).2.1.drop (WireP.takeL l).1)), .int .i64 0]

theorem WireP.putStr_le (n : Nat) (h : n < 18446744073709551616) : (bstr (WireP.putL n)).size ≤ 10 := by rw [bstr_size]; exact WireP.putL_le10 n h

set_option maxHeartbeats 1000000 in
set_option maxRecDepth 100000 in
theorem wireText_any (b : ByteArray) (w : World) (hs : b.size ≤ 140737488351232) :
    Calls Tryd.prog 38 #[.string b] w fun e w' => e = .returned (WireP.textV b.data.toList) ∧ Below w.heap.size w w' := by
  by_cases h : 65536 < b.size
  · have HV : Hid (WireP.textV b.data.toList = .tuple #[.string (bstr []), .int .i64 2]) := by show _ = _; rw [WireP.textV, WireP.blen, if_pos h]
    go_enter Tryd.func38, Tryd.ntmps38
    go_wp2
    go_ret2
    exact ⟨by rw [HV.out]; rfl, Below.refl _ _⟩
  · have HV : Hid (WireP.textV b.data.toList = .tuple #[.string (bstr (WireP.putL b.size) ++ b), .int .i64 0]) := by
      show _ = _; rw [WireP.textV, WireP.blen, if_neg h, ← bstr_append]; rfl
    have hp := WireP.putStr_le b.size (by omega)
    go_enter Tryd.func38, Tryd.ntmps38
    go_wp2_with fail
    refine (wirePut_any _ _ (by omega)).mono ?_
    rintro e w1 ⟨rfl, hb⟩
    go_wp2
    go_ret2
    exact ⟨by rw [HV.out]; rfl, hb⟩

set_option maxHeartbeats 1000000 in
set_option maxRecDepth 100000 in
theorem wireRefText_any (b : ByteArray) (w : World) (hs : b.size ≤ 140737488351232) :
    Calls Tryd.prog 45 #[.string b] w fun e w' => e = .returned (WireP.textV b.data.toList) ∧ Below w.heap.size w w' := by
  by_cases h : 65536 < b.size
  · have HV : Hid (WireP.textV b.data.toList = .tuple #[.string (bstr []), .int .i64 2]) := by show _ = _; rw [WireP.textV, WireP.blen, if_pos h]
    go_enter Tryd.func45, Tryd.ntmps45
    go_wp2
    go_ret2
    exact ⟨by rw [HV.out]; rfl, Below.refl _ _⟩
  · have HV : Hid (WireP.textV b.data.toList = .tuple #[.string (bstr (WireP.putL b.size) ++ b), .int .i64 0]) := by
      show _ = _; rw [WireP.textV, WireP.blen, if_neg h, ← bstr_append]; rfl
    have hp := WireP.putStr_le b.size (by omega)
    go_enter Tryd.func45, Tryd.ntmps45
    go_wp2_with fail
    refine (wireRefPut_any _ _ (by omega)).mono ?_
    rintro e w1 ⟨rfl, hb⟩
    go_wp2
    go_ret2
    exact ⟨by rw [HV.out]; rfl, hb⟩

/-- What Take answers is in range. -/
theorem WireP.takeL_facts (l : List UInt8) : (WireP.takeL l).1 < 18446744073709551616 ∧ (WireP.takeL l).2.1.length ≤ l.length := by
  rcases WireP.takeGo_err 10 0 0 l with h | h | h | h
  · obtain ⟨h1, h2⟩ := WireP.takeL_back l (WireP.takeL l).2.1 (WireP.takeL l).1 (by show WireP.takeL l = _; rw [← h]; rfl)
    refine ⟨h2, ?_⟩
    have := congrArg List.length h1
    rw [List.length_append] at this; omega
  all_goals (have h' : WireP.takeL l = _ := h; rw [h']; simp)

theorem WireP.ne0 {e : Int} (h : ¬ e = 0) : (e != 0) = true := by rw [bne_iff_ne]; exact h

set_option maxHeartbeats 1000000 in
set_option maxRecDepth 100000 in
theorem wireTakeText_any (b : ByteArray) (w : World) (hs : b.size ≤ 140737488351232) :
    Calls Tryd.prog 82 #[.string b] w fun e w' => e = .returned (WireP.takeTextV b.data.toList) ∧ Below w.heap.size w w' := by
  have hT := wireTake_any b w hs
  obtain ⟨hf1, hf2⟩ := WireP.takeL_facts b.data.toList
  rw [WireP.blen] at hf2
  have HVV : Hid (WireP.takeTextV b.data.toList = _) := Lib.hid (by rw [WireP.takeTextV])
  unfold WireP.takeV at hT
  generalize (WireP.takeL b.data.toList).1 = n at *
  generalize (WireP.takeL b.data.toList).2.1 = rest at *
  generalize (WireP.takeL b.data.toList).2.2 = err at *
  have HT := Lib.hid hT
  have hf3 : (n : Int) ≤ 18446744073709551615 := by omega
  clear hT hf1
  have hrs := bstr_size rest
  by_cases h0 : err = 0
  · subst h0
    by_cases h1 : 65536 < n
    · have HV : Hid (WireP.takeTextV b.data.toList = .tuple #[.string (bstr []), .string (bstr []), .int .i64 2]) := by show _ = _; rw [HVV.out, if_neg (by simp), if_pos h1]
      clear HVV
      go_enter Tryd.func82, Tryd.ntmps82
      go_wp2_with fail
      refine HT.out.mono ?_
      rintro e w1 ⟨rfl, hb⟩
      go_wp2
      go_ret3
      exact ⟨by rw [HV.out]; rfl, hb⟩
    · by_cases h2 : rest.length < n
      · have HV : Hid (WireP.takeTextV b.data.toList = .tuple #[.string (bstr []), .string (bstr []), .int .i64 4]) := by show _ = _; rw [HVV.out, if_neg (by simp), if_neg h1, if_pos h2]
        clear HVV
        go_enter Tryd.func82, Tryd.ntmps82
        go_wp2_with fail
        refine HT.out.mono ?_
        rintro e w1 ⟨rfl, hb⟩
        go_wp2
        go_ret3
        exact ⟨by rw [HV.out]; rfl, hb⟩
      · have HV : Hid (WireP.takeTextV b.data.toList = .tuple #[.string (bstr (rest.take n)), .string (bstr (rest.drop n)), .int .i64 0]) := by show _ = _; rw [HVV.out, if_neg (by simp), if_neg h1, if_neg h2]
        have HX : Hid ((bstr rest).extract 0 n = bstr (rest.take n) ∧ (bstr rest).extract n (bstr rest).size = bstr (rest.drop n)) := by
          refine ⟨?_, ?_⟩
          · rw [bstr_extract]; rfl
          · rw [WireP.drop_str]; rfl
        clear HVV
        go_enter Tryd.func82, Tryd.ntmps82
        go_wp2_with fail
        refine HT.out.mono ?_
        rintro e w1 ⟨rfl, hb⟩
        go_wp2_with fail
        refine (wireCutU_any _ _ _ (by omega) (by omega) (by omega)).mono ?_
        rintro e w2 ⟨rfl, hb2⟩
        rw [Int.toNat_natCast]
        go_wp2
        go_ret3
        exact ⟨by rw [HV.out, ← HX.out.1, ← HX.out.2, hrs]; rfl, below_step hb hb2⟩
  · have HV : Hid (WireP.takeTextV b.data.toList = .tuple #[.string (bstr []), .string (bstr []), .int .i64 err]) := by show _ = _; rw [HVV.out, if_pos h0]
    have hne := WireP.ne0 h0
    clear HVV
    go_enter Tryd.func82, Tryd.ntmps82
    go_wp2_with fail
    refine HT.out.mono ?_
    rintro e w1 ⟨rfl, hb⟩
    go_wp2
    go_ret3
    exact ⟨by rw [HV.out]; rfl, hb⟩

set_option maxHeartbeats 1000000 in
set_option maxRecDepth 100000 in
theorem wireRefTakeText_any (b : ByteArray) (w : World) (hs : b.size ≤ 140737488351232) :
    Calls Tryd.prog 74 #[.string b] w fun e w' => e = .returned (WireP.takeTextV b.data.toList) ∧ Below w.heap.size w w' := by
  have hT := wireRefTake_any b w hs
  obtain ⟨hf1, hf2⟩ := WireP.takeL_facts b.data.toList
  rw [WireP.blen] at hf2
  have HVV : Hid (WireP.takeTextV b.data.toList = _) := Lib.hid (by rw [WireP.takeTextV])
  unfold WireP.takeV at hT
  generalize (WireP.takeL b.data.toList).1 = n at *
  generalize (WireP.takeL b.data.toList).2.1 = rest at *
  generalize (WireP.takeL b.data.toList).2.2 = err at *
  have HT := Lib.hid hT
  have hf3 : (n : Int) ≤ 18446744073709551615 := by omega
  clear hT hf1
  have hrs := bstr_size rest
  by_cases h0 : err = 0
  · subst h0
    by_cases h1 : 65536 < n
    · have HV : Hid (WireP.takeTextV b.data.toList = .tuple #[.string (bstr []), .string (bstr []), .int .i64 2]) := by show _ = _; rw [HVV.out, if_neg (by simp), if_pos h1]
      clear HVV
      go_enter Tryd.func74, Tryd.ntmps74
      go_wp2_with fail
      refine HT.out.mono ?_
      rintro e w1 ⟨rfl, hb⟩
      go_wp2
      go_ret3
      exact ⟨by rw [HV.out]; rfl, hb⟩
    · by_cases h2 : rest.length < n
      · have HV : Hid (WireP.takeTextV b.data.toList = .tuple #[.string (bstr []), .string (bstr []), .int .i64 4]) := by show _ = _; rw [HVV.out, if_neg (by simp), if_neg h1, if_pos h2]
        clear HVV
        go_enter Tryd.func74, Tryd.ntmps74
        go_wp2_with fail
        refine HT.out.mono ?_
        rintro e w1 ⟨rfl, hb⟩
        go_wp2
        go_ret3
        exact ⟨by rw [HV.out]; rfl, hb⟩
      · have HV : Hid (WireP.takeTextV b.data.toList = .tuple #[.string (bstr (rest.take n)), .string (bstr (rest.drop n)), .int .i64 0]) := by show _ = _; rw [HVV.out, if_neg (by simp), if_neg h1, if_neg h2]
        have HX : Hid ((bstr rest).extract 0 n = bstr (rest.take n) ∧ (bstr rest).extract n (bstr rest).size = bstr (rest.drop n)) := by
          refine ⟨?_, ?_⟩
          · rw [bstr_extract]; rfl
          · rw [WireP.drop_str]; rfl
        clear HVV
        go_enter Tryd.func74, Tryd.ntmps74
        go_wp2_with fail
        refine HT.out.mono ?_
        rintro e w1 ⟨rfl, hb⟩
        go_wp2
        go_quiet (fail)
        go_wp2
        go_ret3
        exact ⟨by rw [HV.out, ← HX.out.1, ← HX.out.2, hrs]; rfl, bdrewN hb _⟩
  · have HV : Hid (WireP.takeTextV b.data.toList = .tuple #[.string (bstr []), .string (bstr []), .int .i64 err]) := by show _ = _; rw [HVV.out, if_pos h0]
    have hne := WireP.ne0 h0
    clear HVV
    go_enter Tryd.func74, Tryd.ntmps74
    go_wp2_with fail
    refine HT.out.mono ?_
    rintro e w1 ⟨rfl, hb⟩
    go_wp2
    go_ret3
    exact ⟨by rw [HV.out]; rfl, hb⟩

/-- 'width' fits: 1 to 8. -/
def WireP.fitB (n : Int) : Bool := decide (1 ≤ n) && decide (n ≤ 8)

set_option maxHeartbeats 1000000 in
set_option maxRecDepth 100000 in
theorem wireFits_yes (n : Int) (w : World) (h1 : 1 ≤ n) (h2 : n ≤ 8) :
    Calls Tryd.prog 59 #[.int .i64 n] w fun e w' => e = .returned (.bool true) ∧ w = w' := by
  go_enter Tryd.func59, Tryd.ntmps59
  go_wp2
  go_ret
  exact ⟨rfl, rfl⟩

set_option maxHeartbeats 1000000 in
set_option maxRecDepth 100000 in
theorem wireFits_no (n : Int) (w : World) (h : n < 1 ∨ 8 < n) :
    Calls Tryd.prog 59 #[.int .i64 n] w fun e w' => e = .returned (.bool false) ∧ w = w' := by
  rcases h with h | h
  · go_enter Tryd.func59, Tryd.ntmps59
    go_wp2
    go_ret
    exact ⟨rfl, rfl⟩
  · have hd : decide (n ≤ 8) = false := by rw [decide_eq_false_iff_not]; omega
    go_enter Tryd.func59, Tryd.ntmps59
    go_wp2
    go_ret
    exact ⟨rfl, rfl⟩

set_option maxHeartbeats 1000000 in
set_option maxRecDepth 100000 in
theorem wireFixed_no (n width : Int) (w : World) (h : width < 1 ∨ 8 < width) :
    Calls Tryd.prog 39 #[.int .u64 n, .int .i64 width] w fun e w' => e = .returned (.string (bstr [])) ∧ w = w' := by
  go_enter Tryd.func39, Tryd.ntmps39
  go_wp2_with fail
  refine (wireFits_no _ _ h).mono ?_
  rintro e w1 ⟨rfl, rfl⟩
  go_wp2
  go_ret
  exact ⟨rfl, rfl⟩

set_option maxHeartbeats 1000000 in
set_option maxRecDepth 100000 in
theorem wireRefFixed_no (n width : Int) (w : World) (h : width < 1 ∨ 8 < width) :
    Calls Tryd.prog 46 #[.int .u64 n, .int .i64 width] w fun e w' => e = .returned (.string (bstr [])) ∧ w = w' := by
  rcases h with h | h
  · go_enter Tryd.func46, Tryd.ntmps46
    go_wp2
    go_ret
    exact ⟨rfl, rfl⟩
  · go_enter Tryd.func46, Tryd.ntmps46
    go_wp2
    go_ret
    exact ⟨rfl, rfl⟩

set_option maxHeartbeats 1000000 in
set_option maxRecDepth 100000 in
theorem wireTakeFixed_no (b : ByteArray) (width : Int) (w : World) (h : width < 1 ∨ 8 < width) :
    Calls Tryd.prog 48 #[.string b, .int .i64 width] w fun e w' => e = .returned (.tuple #[.int .u64 0, .string (bstr []), .int .i64 1]) ∧ w = w' := by
  go_enter Tryd.func48, Tryd.ntmps48
  go_wp2_with fail
  refine (wireFits_no _ _ h).mono ?_
  rintro e w1 ⟨rfl, rfl⟩
  go_wp2
  go_ret3
  exact ⟨rfl, rfl⟩

set_option maxHeartbeats 1000000 in
set_option maxRecDepth 100000 in
theorem wireRefTakeFixed_no (b : ByteArray) (width : Int) (w : World) (h : width < 1 ∨ 8 < width) :
    Calls Tryd.prog 50 #[.string b, .int .i64 width] w fun e w' => e = .returned (.tuple #[.int .u64 0, .string (bstr []), .int .i64 1]) ∧ w = w' := by
  rcases h with h | h
  · go_enter Tryd.func50, Tryd.ntmps50
    go_wp2
    go_ret3
    exact ⟨rfl, rfl⟩
  · go_enter Tryd.func50, Tryd.ntmps50
    go_wp2
    go_ret3
    exact ⟨rfl, rfl⟩

/-- The byte of n that stands above so many others. -/
def WireP.byteAt (n i : Nat) : UInt8 := UInt8.ofNat (n / 256 ^ i)
theorem WireP.byteAt_eq (n i : Nat) : ((n : Int) / 2 ^ (8 * i)) % 256 = ((WireP.byteAt n i).toNat : Int) := by
  have h256 : (2 : Nat) ^ 8 = 256 := by decide
  unfold WireP.byteAt
  rw [UInt8.toNat_ofNat', h256, ← h256, ← Nat.pow_mul]
  simp
theorem WireP.fixed_snoc (n w i : Nat) (h : i < w) : (WireP.fixedL n w).take (i + 1) = (WireP.fixedL n w).take i ++ [WireP.byteAt n (w - 1 - i)] := by
  induction w generalizing i with
  | zero => omega
  | succ w ih =>
    cases i with
    | zero => simp [WireP.fixedL, WireP.byteAt]
    | succ i =>
      simp only [WireP.fixedL, List.take_succ_cons, List.cons_append]
      rw [ih i (by omega), show w + 1 - 1 - (i + 1) = w - 1 - i by omega]

set_option maxHeartbeats 1000000 in
set_option maxRecDepth 100000 in
theorem wireRefFixed_yes (n width : Nat) (w : World) (h1 : 1 ≤ width) (h2 : width ≤ 8) :
    Calls Tryd.prog 46 #[.int .u64 n, .int .i64 width] w fun e w' => e = .returned (.string (bstr (WireP.fixedL n width))) ∧ Below w.heap.size w w' := by
  have HF := Lib.hid (WireP.fixedL_length n width)
  go_enter Tryd.func46, Tryd.ntmps46
  go_wp2
  go_loopw [5, 6] (fun v i wr => ∃ k : Nat, k ≤ width ∧ i = .int .i64 ((width : Int) - 1 - k) ∧ wr.ownsRow w.heap.size 5 1 v k (bcells ((WireP.fixedL n width).take k)) ∧ Below w.heap.size w wr)
    (fun _ i _ => ((intOf i) + 1).toNat)
  case atStart => exact ⟨0, by omega, by go_num, World.ownsRow_nil _ _ _ _, Below.refl _ _⟩
  case round =>
    obtain ⟨k, hk, rfl, hown, hb⟩ := hrel
    have hz := hb.size
    by_cases hlt : k < width
    · obtain ⟨j, hj⟩ : ∃ j, width - 1 - k = j := ⟨_, rfl⟩
      have hjj : ((width : Int) - 1 - k) = (j : Int) := by omega
      rw [hjj]
      have HS := Lib.hid (WireP.fixed_snoc n width k hlt)
      have HJ := Lib.hid hj
      have hjl : j ≤ 7 := by omega
      have HC := Lib.hid (WireP.byteAt_eq n j)
      clear hj hjj
      go_wp2_with (at_builtin; refine wpList_append_byte rfl _ _ 51 rfl w.heap.size 5 Tryd.winfo_u8 Tryd.underlying51 _ _ ((WireP.fixedL n width).take k) rfl hown (WireP.byteAt n j) _ HC.out rfl hz (by omega) ?_; intro v' w1 hown1 hb1)
      go_roundw
      case rel => exact ⟨k + 1, by omega, by have := HJ.out; go_num, by rw [HS.out, HJ.out]; exact hown1, hb.trans hb1⟩
      case measure => simp [intOf]
    · obtain rfl : k = width := by omega
      rw [List.take_of_length_le (by rw [HF.out]; omega)] at hown
      have hjj : ((k : Int) - 1 - k) = -1 := by omega
      rw [hjj]
      have hcv := conv_owned (P := Tryd.prog) hown HF.out.symm Tryd.underlying51 Tryd.underlying5 Tryd.underlying9
      clear hjj
      go_wp2
      go_ret
      exact ⟨rfl, hb⟩

theorem WireP.fixed_set (n w k : Nat) (h : k < w) : ((WireP.fixedL n w).take k ++ List.replicate (w - k) 0).set k (WireP.byteAt n (w - 1 - k)) = (WireP.fixedL n w).take (k + 1) ++ List.replicate (w - (k + 1)) 0 := by
  have hl : ((WireP.fixedL n w).take k).length = k := by rw [List.length_take, WireP.fixedL_length]; omega
  rw [WireP.fixed_snoc n w k h, show w - k = (w - (k + 1)) + 1 by omega, List.replicate_succ, List.set_append_right _ _ (by omega), hl, Nat.sub_self, List.set_cons_zero, List.append_assoc]
  rfl

set_option maxHeartbeats 1000000 in
set_option maxRecDepth 100000 in
theorem wireFixed_yes (n width : Nat) (w : World) (h1 : 1 ≤ width) (h2 : width ≤ 8) :
    Calls Tryd.prog 39 #[.int .u64 n, .int .i64 width] w fun e w' => e = .returned (.string (bstr (WireP.fixedL n width))) ∧ Below w.heap.size w w' := by
  have HF := Lib.hid (WireP.fixedL_length n width)
  go_enter Tryd.func39, Tryd.ntmps39
  go_wp2_with fail
  refine (wireFits_yes _ _ (by omega) (by omega)).mono ?_
  rintro e w1 ⟨rfl, rfl⟩
  go_wp2_with (at_make; refine wpList_make_bytes rfl _ _ 51 rfl w.heap.size 5 Tryd.winfo_u8 Tryd.underlying51 width rfl rfl (by omega) (Nat.le_refl _) ?_; intro w1 hown hb)
  go_loopw [14] (fun i wr => ∃ k : Nat, k ≤ width ∧ i = .int .i64 k ∧ wr.ownsRow w.heap.size 5 1 (.slice (some ⟨w.heap.size, 0, none⟩) width width) width (bcells ((WireP.fixedL n width).take k ++ List.replicate (width - k) 0)) ∧ Below w.heap.size w wr)
    (fun i _ => width - (intOf i).toNat)
  case atStart => exact ⟨0, by omega, rfl, by simpa using hown, hb⟩
  case round =>
    clear hown hb
    obtain ⟨k, hk, rfl, hown, hb⟩ := hrel
    have hlen : ((WireP.fixedL n width).take k ++ List.replicate (width - k) 0).length = width := by rw [List.length_append, List.length_take, HF.out, List.length_replicate]; omega
    by_cases hlt : k < width
    · obtain ⟨x0, hcell⟩ : ∃ x, wr.cell? ⟨w.heap.size, k, none⟩ = some (.int .u8 x) := ⟨_, own_cell hown hlen.symm k (by omega)⟩
      have hfz := hown.frozenAt k
      obtain ⟨j, hj⟩ : ∃ j, width - 1 - k = j := ⟨_, rfl⟩
      have hjj : ((width : Int) - 1 - k) = (j : Int) := by omega
      have HJ := Lib.hid hj
      have HC := Lib.hid (WireP.byteAt_eq n j)
      have HS := Lib.hid (WireP.fixed_set n width k hlt)
      have HL := Lib.hid hlen
      clear hlen hj
      go_wp2
      go_roundw
      case rel =>
        obtain ⟨o1, o2⟩ := own_set hown k (WireP.byteAt n j) _ HC.out (Nat.le_refl _)
        exact ⟨k + 1, by omega, by go_num, by rw [← HS.out, HJ.out]; exact o1, hb.trans o2⟩
      case measure => simp [intOf]; omega
    · obtain rfl : k = width := by omega
      rw [show List.replicate (k - k) (0 : UInt8) = [] by simp, List.append_nil, List.take_of_length_le (by rw [HF.out]; omega)] at hown
      have hcv := conv_owned (P := Tryd.prog) hown HF.out.symm Tryd.underlying51 Tryd.underlying5 Tryd.underlying9
      clear hlen
      go_wp2
      go_ret
      exact ⟨rfl, hb⟩

theorem WireP.numOf_take (l : List UInt8) (k : Nat) (h : k < l.length) : WireP.numOf (l.take (k + 1)) = WireP.numOf (l.take k) * 256 + (l[k]).toNat := by
  rw [List.take_succ_eq_append_getElem h, WireP.numOf_snoc]
theorem WireP.numOf_room (l : List UInt8) (k : Nat) (h : k ≤ 8) : WireP.numOf (l.take k) < 256 ^ k := by
  have := WireP.numOf_lt (l.take k)
  exact Nat.lt_of_lt_of_le this (Nat.pow_le_pow_right (by decide) (by rw [List.length_take]; omega))
/-- 'n << 8 | c'. -/
theorem WireP.shl8_or (n c : Nat) (hn : n < 72057594037927936) (hc : c < 256) : bits .or .u64 (IntKind.u64.wrap ((n : Int) * 256)) (c : Int) = ((n * 256 + c : Nat) : Int) := by
  rw [IntWalk.u64_in _ (by omega)]
  have := (bits_nat .u64 64 (by decide) (fun x h0 h1 => IntWalk.u64_in x (by omega)) (n * 256) c (by omega) (by omega)).2
  rw [show ((n : Int) * 256) = ((n * 256 : Nat) : Int) by omega, this, Nat.mul_comm n, show (256 : Nat) = 2 ^ 8 from rfl, ← Nat.two_pow_add_eq_or_of_lt (i := 8) (by omega) n]
theorem WireP.pow_room {n k : Nat} (h : n < 256 ^ k) (hk : k < 8) : n < 72057594037927936 := by
  have : (256 : Nat) ^ k ≤ 256 ^ 7 := Nat.pow_le_pow_right (by decide) (by omega)
  have e : (256 : Nat) ^ 7 = 72057594037927936 := by decide
  omega

/-- What TakeFixed answers at a width that fits, as a value. -/
def WireP.fixV (l : List UInt8) (width : Nat) : Value :=
  if l.length < width then .tuple #[.int .u64 0, .string (bstr []), .int .i64 4]
  else .tuple #[.int .u64 (WireP.numOf (l.take width)), .string (bstr (l.drop width)), .int .i64 0]

set_option maxHeartbeats 1000000 in
set_option maxRecDepth 100000 in
theorem wireTakeFixed_yes (b : ByteArray) (width : Nat) (w : World) (h1 : 1 ≤ width) (h2 : width ≤ 8) (hs : b.size ≤ 140737488351232) :
    Calls Tryd.prog 48 #[.string b, .int .i64 width] w fun e w' => e = .returned (WireP.fixV b.data.toList width) ∧ Below w.heap.size w w' := by
  by_cases hlt : b.size < width
  · have HV : Hid (WireP.fixV b.data.toList width = .tuple #[.int .u64 0, .string (bstr []), .int .i64 4]) := by show _ = _; rw [WireP.fixV, WireP.blen, if_pos hlt]
    go_enter Tryd.func48, Tryd.ntmps48
    go_wp2_with fail
    refine (wireFits_yes _ _ (by omega) (by omega)).mono ?_
    rintro e w1 ⟨rfl, rfl⟩
    go_wp2
    go_ret3
    exact ⟨by rw [HV.out]; rfl, Below.refl _ _⟩
  · have HV : Hid (WireP.fixV b.data.toList width = .tuple #[.int .u64 (WireP.numOf (b.data.toList.take width)), .string (b.extract width b.size), .int .i64 0]) := by
      show _ = _; rw [WireP.fixV, WireP.blen, if_neg hlt, WireP.drop_str]
    have hts : (b.extract 0 width).size = width := by rw [ByteArray.size_extract]; omega
    have htd : (b.extract 0 width).data.toList = b.data.toList.take width := by rw [bstr_extract]; simp [bstr]
    go_enter Tryd.func48, Tryd.ntmps48
    go_wp2_with fail
    refine (wireFits_yes _ _ (by omega) (by omega)).mono ?_
    rintro e w1 ⟨rfl, rfl⟩
    go_wp2_with fail
    refine (wireCutI_any b _ _ (by omega) (by omega)).mono ?_
    rintro e w1 ⟨rfl, hb1⟩
    rw [Int.toNat_natCast]
    generalize htt : b.extract 0 width = t at hts htd
    clear htt
    generalize hll : b.data.toList.take width = l at HV htd
    clear hll
    go_wp2_with (with_reducible refine wpList_bytes_of rfl _ 9 51 5 rfl Tryd.underlying9 Tryd.underlying51 Tryd.underlying5 t rfl ?_; intro w2 cap hcells hfz hb2 hcap hsz)
    clear hfz
    go_loop [9, 28] (fun n i => ∃ k : Nat, k ≤ width ∧ i = .int .i64 k ∧ n = .int .u64 (WireP.numOf (l.take k))) (fun _ i => width - (intOf i).toNat)
    case atStart => exact ⟨0, by omega, rfl, rfl⟩
    case round =>
      obtain ⟨k, hk, rfl, rfl⟩ := hrel
      by_cases hkw : k < width
      · have hkt : k < t.size := by omega
        have hc := hcells k hkt
        have hll : l.length = width := by rw [← htd, WireP.blen, hts]
        have hck : t[k].toNat < 256 := t[k].toNat_lt
        have HN := Lib.hid (WireP.numOf_take l k (by omega))
        have HG : Hid (l[k]'(by omega) = t[k]) := by
          show _ = _
          subst htd
          exact WireP.bget t k hkt _
        have hroom := WireP.pow_room (WireP.numOf_room l k (by omega)) (by omega)
        generalize WireP.numOf (l.take k) = m at HN hroom ⊢
        have HO := Lib.hid (WireP.shl8_or m t[k].toNat hroom hck)
        clear hcells hroom
        go_wp2
        go_round
        case rel => exact ⟨k + 1, by omega, by go_num, by rw [HO.out, HN.out, HG.out]⟩
        case measure => simp [intOf]; omega
      · obtain rfl : k = width := by omega
        have HLL : Hid (l.take k = l) := by show _ = _; rw [List.take_of_length_le]; rw [← htd, WireP.blen, hts]; omega
        clear hcells
        go_wp2
        go_ret3
        exact ⟨by rw [HV.out, HLL.out]; rfl, below_step hb1 hb2⟩

set_option maxHeartbeats 1000000 in
set_option maxRecDepth 100000 in
theorem wireRefTakeFixed_yes (b : ByteArray) (width : Nat) (w : World) (h1 : 1 ≤ width) (h2 : width ≤ 8) (hs : b.size ≤ 140737488351232) :
    Calls Tryd.prog 50 #[.string b, .int .i64 width] w fun e w' => e = .returned (WireP.fixV b.data.toList width) ∧ Below w.heap.size w w' := by
  by_cases hlt : b.size < width
  · have HV : Hid (WireP.fixV b.data.toList width = .tuple #[.int .u64 0, .string (bstr []), .int .i64 4]) := by show _ = _; rw [WireP.fixV, WireP.blen, if_pos hlt]
    go_enter Tryd.func50, Tryd.ntmps50
    go_wp2
    go_ret3
    exact ⟨by rw [HV.out]; rfl, Below.refl _ _⟩
  · have HV : Hid (WireP.fixV b.data.toList width = .tuple #[.int .u64 (WireP.numOf (b.data.toList.take width)), .string (b.extract width b.size), .int .i64 0]) := by
      show _ = _; rw [WireP.fixV, WireP.blen, if_neg hlt, WireP.drop_str]
    go_enter Tryd.func50, Tryd.ntmps50
    go_wp2
    go_loop [7, 8] (fun n i => ∃ k : Nat, k ≤ width ∧ i = .int .i64 k ∧ n = .int .u64 (WireP.numOf (b.data.toList.take k))) (fun _ i => width - (intOf i).toNat)
    case atStart => exact ⟨0, by omega, rfl, rfl⟩
    case round =>
      obtain ⟨k, hk, rfl, rfl⟩ := hrel
      by_cases hkw : k < width
      · have hkb : k < b.size := by omega
        have hck : (b[k]'hkb).toNat < 256 := (b[k]'hkb).toNat_lt
        have HN := Lib.hid (WireP.numOf_take b.data.toList k (by rw [WireP.blen]; exact hkb))
        have HG := Lib.hid (WireP.bget b k hkb (by rw [WireP.blen]; exact hkb))
        have hroom := WireP.pow_room (WireP.numOf_room b.data.toList k (by omega)) (by omega)
        generalize WireP.numOf (b.data.toList.take k) = m at HN hroom ⊢
        have hk2 : (k : Int) < (b.size : Int) := by omega
        go_wp2
        go_round
        case rel => exact ⟨k + 1, by omega, by go_num, by rw [HN.out, HG.out]; go_num⟩
        case measure => simp [intOf]; omega
      · obtain rfl : k = width := by omega
        go_wp2
        go_quiet (fail)
        go_wp2
        go_ret3
        exact ⟨by rw [HV.out]; rfl, bdrewN (Below.refl _ _) _⟩

end Go.Proofs.YtfcffglgkblidaaDoor
