/-
  The walks of the statements of layer 1: each answers true, and writes nothing that was there.
-/
import Derived.Test.YtlmlokhmhjggaaaCrcWalks
namespace Go.Proofs.Ytlmlokhmhjggaaa
open Go.RowKit

theorem CrcP.exu (a : Int) (h : (Lit.int .u32 a).wf = true) : ∃ x : BitVec 32, a = (x.toNat : Int) := by
  have hb : 0 ≤ a ∧ a ≤ 4294967295 := by simpa [Lit.wf, IntKind.min, IntKind.max, IntKind.signed, IntKind.bits] using h
  obtain ⟨n, rfl⟩ := Int.eq_ofNat_of_zero_le hb.1
  exact ⟨BitVec.ofNat 32 n, by simp; omega⟩

set_option maxHeartbeats 400000 in
theorem crcDoes_walk (x : BitVec 32) (b : ByteArray) (w : World) (hs : b.size ≤ 140737488351232) :
    Calls Try.prog 3 #[.int .u32 x.toNat, .string b] w fun e w' => e = .returned (.bool true) ∧ Below w.heap.size w w' := by
  have hs : b.size ≤ 9223372036854775807 := by omega
  by_cases hl : b.size ≤ 5000
  · have HX := Lib.hid (CrcP.bxor x CrcP.ones)
    go_enter Try.func3, Try.ntmps3
    go_wp2_with fail
    refine (crcSummed_any _).mono ?_
    rintro e w1 ⟨rfl, h1⟩
    go_wp2_with fail
    refine (crcOf_any _ _ hs).mono ?_
    rintro e w2 ⟨rfl, h2⟩
    go_wp2_with fail
    refine (crcRefOf_any _ _ hs).mono ?_
    rintro e w' ⟨rfl, rfl⟩
    go_wp2_with fail
    refine (crcAdd_any _ _ _ hs).mono ?_
    rintro e w3 ⟨rfl, h3⟩
    go_wp2_with fail
    refine (crcRefAdd_any _ _ _ hs).mono ?_
    rintro e w' ⟨rfl, rfl⟩
    go_wp2_with fail
    refine (crcEnd_any _ _).mono ?_
    rintro e w' ⟨rfl, rfl⟩
    go_wp2
    go_ret
    have hx : bits .xor .u32 (x.toNat : Int) 4294967295 = ((CrcP.endB x).toNat : Int) := HX.out
    exact ⟨by rw [hx]; simp, below_step (below_step h1 h2) h3⟩
  · go_enter Try.func3, Try.ntmps3
    go_wp2
    go_ret
    exact ⟨rfl, Below.refl _ _⟩

theorem CrcP.beq_true {a b : Int} (h : a = b) : (a == b) = true := by simp [h]
theorem CrcP.beq_false {x y : BitVec 32} (h : x ≠ y) : ((x.toNat : Int) == (y.toNat : Int)) = false := by
  rw [beq_eq_false_iff_ne]; intro e; exact h (BitVec.eq_of_toNat_eq (Int.ofNat_inj.1 e))

set_option maxHeartbeats 400000 in
theorem crcBack_walk (x y : BitVec 32) (b : ByteArray) (w : World) (hs : b.size ≤ 140737488351232) :
    Calls Try.prog 7 #[.int .u32 x.toNat, .int .u32 y.toNat, .string b] w fun e w' => e = .returned (.bool true) ∧ Below w.heap.size w w' := by
  have hs : b.size ≤ 9223372036854775807 := by omega
  by_cases hl : b.size ≤ 5000
  · by_cases hxy : x = y
    · subst hxy
      go_enter Try.func7, Try.ntmps7
      go_wp2_with fail
      refine (crcSummed_any _).mono ?_
      rintro e w1 ⟨rfl, h1⟩
      go_wp2_with fail
      refine (crcAdd_any _ _ _ hs).mono ?_
      rintro e w2 ⟨rfl, h2⟩
      go_wp2_with fail
      refine (crcAdd_any _ _ _ hs).mono ?_
      rintro e w3 ⟨rfl, h3⟩
      go_wp2_with fail
      refine (crcEnd_any x _).mono ?_
      rintro e w' ⟨rfl, rfl⟩
      go_wp2_with fail
      refine (crcEnd_any _ _).mono ?_
      rintro e w' ⟨rfl, rfl⟩
      rw [CrcP.endB_endB]
      go_wp2
      go_ret
      exact ⟨rfl, below_step (below_step h1 h2) h3⟩
    · have f1 := CrcP.beq_false hxy
      have f2 := CrcP.beq_false (fun h => hxy (CrcP.add_inj b.data.toList x y h))
      go_enter Try.func7, Try.ntmps7
      go_wp2_with fail
      refine (crcSummed_any _).mono ?_
      rintro e w1 ⟨rfl, h1⟩
      go_wp2_with fail
      refine (crcAdd_any _ _ _ hs).mono ?_
      rintro e w2 ⟨rfl, h2⟩
      go_wp2_with fail
      refine (crcAdd_any _ _ _ hs).mono ?_
      rintro e w3 ⟨rfl, h3⟩
      go_wp2_with fail
      refine (crcEnd_any _ _).mono ?_
      rintro e w' ⟨rfl, rfl⟩
      go_wp2_with fail
      refine (crcEnd_any _ _).mono ?_
      rintro e w' ⟨rfl, rfl⟩
      rw [CrcP.endB_endB]
      go_wp2
      go_ret
      exact ⟨rfl, below_step (below_step h1 h2) h3⟩
  · go_enter Try.func7, Try.ntmps7
    go_wp2
    go_ret
    exact ⟨rfl, Below.refl _ _⟩

theorem CrcP.toList_append (a b : ByteArray) : (a ++ b).data.toList = a.data.toList ++ b.data.toList := by simp

theorem CrcP.add_join (x : BitVec 32) (a b : ByteArray) : CrcP.add x (a ++ b).data.toList = CrcP.add (CrcP.add x a.data.toList) b.data.toList := by
  rw [CrcP.toList_append, CrcP.add_append]

theorem CrcP.ofL_join (a b : ByteArray) : CrcP.ofL (a ++ b).data.toList = CrcP.endB (CrcP.add (CrcP.add CrcP.ones a.data.toList) b.data.toList) := by
  rw [CrcP.ofL, CrcP.add_join]

set_option maxHeartbeats 400000 in
theorem crcParts_walk (x : BitVec 32) (a b : ByteArray) (w : World) (ha : a.size ≤ 140737488351232) (hs : b.size ≤ 140737488351232) :
    Calls Try.prog 4 #[.int .u32 x.toNat, .string a, .string b] w fun e w' => e = .returned (.bool true) ∧ Below w.heap.size w w' := by
  by_cases hl2 : a.size + b.size ≤ 5000
  · have hab : (a ++ b).size ≤ 9223372036854775807 := by rw [ByteArray.size_append]; omega
    go_enter Try.func4, Try.ntmps4
    go_wp2_with fail
    refine (crcSummed_any _).mono ?_
    rintro e w1 ⟨rfl, h1⟩
    go_wp2_with fail
    refine (crcAdd_any _ _ _ (by omega)).mono ?_
    rintro e w2 ⟨rfl, h2⟩
    go_wp2_with fail
    refine (crcAdd_any _ _ _ (by omega)).mono ?_
    rintro e w3 ⟨rfl, h3⟩
    go_wp2_with fail
    refine (crcAdd_any x (a ++ b) _ hab).mono ?_
    rw [CrcP.add_join]
    rintro e w4 ⟨rfl, h4⟩
    go_wp2_with fail
    refine (crcAdd_any x _ _ (by decide)).mono ?_
    rintro e w5 ⟨rfl, h5⟩
    rw [show CrcP.add x (ByteArray.mk #[]).data.toList = x from rfl]
    go_wp2_with fail
    refine (crcOf_any (a ++ b) _ hab).mono ?_
    rw [CrcP.ofL_join]
    rintro e w6 ⟨rfl, h6⟩
    go_wp2_with fail
    refine (crcStart_any _).mono ?_
    rintro e w' ⟨rfl, rfl⟩
    go_wp2_with fail
    refine (crcAdd_any _ _ _ (by omega)).mono ?_
    rintro e w7 ⟨rfl, h7⟩
    go_wp2_with fail
    refine (crcAdd_any _ _ _ (by omega)).mono ?_
    rintro e w8 ⟨rfl, h8⟩
    go_wp2_with fail
    refine (crcEnd_any _ _).mono ?_
    rintro e w' ⟨rfl, rfl⟩
    go_wp2
    go_ret
    exact ⟨rfl, below_step (below_step (below_step (below_step (below_step (below_step (below_step h1 h2) h3) h4) h5) h6) h7) h8⟩
  · go_enter Try.func4, Try.ntmps4
    go_wp2
    go_ret
    exact ⟨rfl, Below.refl _ _⟩

def CrcP.fourL (x : BitVec 32) : List UInt8 := [UInt8.ofNat (x.toNat / 16777216), UInt8.ofNat (x.toNat / 65536), UInt8.ofNat (x.toNat / 256), UInt8.ofNat x.toNat]

theorem CrcP.fourL_nat (x : BitVec 32) : (UInt8.ofNat (x.toNat / 16777216)).toNat = x.toNat / 16777216 ∧ (UInt8.ofNat (x.toNat / 65536)).toNat = x.toNat / 65536 % 256 ∧
    (UInt8.ofNat (x.toNat / 256)).toNat = x.toNat / 256 % 256 ∧ (UInt8.ofNat x.toNat).toNat = x.toNat % 256 := by
  have := x.isLt
  refine ⟨?_, ?_, ?_, ?_⟩ <;> simp only [UInt8.toNat_ofNat'] <;> omega

theorem CrcP.fourL_inj (s x y : BitVec 32) (h : CrcP.add s (CrcP.fourL x) = CrcP.add s (CrcP.fourL y)) : x = y := by
  unfold CrcP.fourL at h
  rw [CrcP.add_four, CrcP.add_four] at h
  have h1 := CrcP.bitN_inj 32 _ _ h
  rw [BitVec.xor_comm s, BitVec.xor_comm s] at h1
  have h2 := congrArg BitVec.toNat (CrcP.xor_cancel _ _ _ h1)
  obtain ⟨a1, a2, a3, a4⟩ := CrcP.fourL_nat x
  obtain ⟨b1, b2, b3, b4⟩ := CrcP.fourL_nat y
  rw [a1, a2, a3, a4, b1, b2, b3, b4] at h2
  simp only [BitVec.toNat_ofNat] at h2
  have hx := x.isLt; have hy := y.isLt
  have dig : ∀ a b c d a' b' c' d' : Nat, a < 256 → b < 256 → c < 256 → d < 256 → a' < 256 → b' < 256 → c' < 256 → d' < 256 →
      (a + 256 * (b + 256 * (c + 256 * d))) % 2 ^ 32 = (a' + 256 * (b' + 256 * (c' + 256 * d'))) % 2 ^ 32 → a = a' ∧ b = b' ∧ c = c' ∧ d = d' := by
    intro a b c d a' b' c' d' _ _ _ _ _ _ _ _ h
    rw [Nat.mod_eq_of_lt (by omega), Nat.mod_eq_of_lt (by omega)] at h
    omega
  obtain ⟨e1, e2, e3, e4⟩ := dig _ _ _ _ _ _ _ _ (by omega) (by omega) (by omega) (by omega) (by omega) (by omega) (by omega) (by omega) h2
  have split : ∀ n : Nat, n = n / 16777216 * 16777216 + n / 65536 % 256 * 65536 + n / 256 % 256 * 256 + n % 256 := by intro n; omega
  apply BitVec.eq_of_toNat_eq
  rw [split x.toNat, split y.toNat, e1, e2, e3, e4]

theorem CrcP.burst (a b : List UInt8) (x y : BitVec 32) (h : CrcP.ofL (a ++ CrcP.fourL x ++ b) = CrcP.ofL (a ++ CrcP.fourL y ++ b)) : x = y := by
  have h1 := CrcP.ofL_inj h
  rw [CrcP.add_append, CrcP.add_append, CrcP.add_append, CrcP.add_append] at h1
  exact CrcP.fourL_inj _ _ _ (CrcP.add_inj _ _ _ h1)

def CrcP.fourB (x : BitVec 32) : ByteArray := ⟨(CrcP.fourL x).toArray⟩
theorem CrcP.fourB_le (x : BitVec 32) : (CrcP.fourB x).size ≤ 4 := by show (4 : Nat) ≤ 4; omega

theorem CrcP.u8_cast {a b : Int} (h : a = b) : some (Value.int .u8 a) = some (Value.int .u8 b) := by rw [h]

set_option maxHeartbeats 400000 in
theorem crcFour_any (x : BitVec 32) (w : World) :
    Calls Try.prog 15 #[.int .u32 x.toNat] w fun e w' => e = .returned (.string (CrcP.fourB x)) ∧ Below w.heap.size w w' := by
  have hx := x.isLt
  have HC : ∀ (W : World), W.cell? ⟨w.heap.size, 0, none⟩ = some (Value.int IntKind.u8 (↑x.toNat / 16777216)) → W.cell? ⟨w.heap.size, 1, none⟩ = some (Value.int IntKind.u8 (↑x.toNat / 65536 % 256)) →
      W.cell? ⟨w.heap.size, 2, none⟩ = some (Value.int IntKind.u8 (↑x.toNat / 256 % 256)) → W.cell? ⟨w.heap.size, 3, none⟩ = some (Value.int IntKind.u8 (↑x.toNat % 256)) →
      (convert 32 9 (Value.slice (some ⟨w.heap.size, 0, none⟩) 4 4)).run Try.prog W = .ok (.string (CrcP.fourB x)) W := by
    intro W c0 c1 c2 c3
    obtain ⟨a1, a2, a3, a4⟩ := CrcP.fourL_nat x
    refine run_convert_bytes_back W 32 9 5 ⟨w.heap.size, 0, none⟩ 4 (CrcP.fourL x) Try.underlying32 Try.underlying5 Try.underlying9 ?_
    intro j hj
    match j, hj with
    | 0, _ => rw [show (⟨w.heap.size, 0, none⟩ : Addr).add 0 = ⟨w.heap.size, 0, none⟩ from rfl, c0]; exact CrcP.u8_cast (by show _ = ((UInt8.ofNat (x.toNat / 16777216)).toNat : Int); rw [a1]; rfl)
    | 1, _ => rw [show (⟨w.heap.size, 0, none⟩ : Addr).add 1 = ⟨w.heap.size, 1, none⟩ from rfl, c1]; exact CrcP.u8_cast (by show _ = ((UInt8.ofNat (x.toNat / 65536)).toNat : Int); rw [a2]; rfl)
    | 2, _ => rw [show (⟨w.heap.size, 0, none⟩ : Addr).add 2 = ⟨w.heap.size, 2, none⟩ from rfl, c2]; exact CrcP.u8_cast (by show _ = ((UInt8.ofNat (x.toNat / 256)).toNat : Int); rw [a3]; rfl)
    | 3, _ => rw [show (⟨w.heap.size, 0, none⟩ : Addr).add 3 = ⟨w.heap.size, 3, none⟩ from rfl, c3]; exact CrcP.u8_cast (by show _ = ((UInt8.ofNat (x.toNat)).toNat : Int); rw [a4]; rfl)
  go_enter Try.func15, Try.ntmps15
  go_wp2
  go_ret
  exact ⟨rfl, (Below.refl _ _).alloc (Nat.le_refl _) _⟩

/-- The text ahead, a number's four bytes, the text behind, as one. -/
def CrcP.text3 (a : ByteArray) (x : BitVec 32) (b : ByteArray) : ByteArray := (a ++ CrcP.fourB x) ++ b
theorem CrcP.text3_size (a b : ByteArray) (x : BitVec 32) : (CrcP.text3 a x b).size ≤ a.size + 4 + b.size := by
  have := CrcP.fourB_le x
  unfold CrcP.text3; rw [ByteArray.size_append, ByteArray.size_append]; omega
theorem CrcP.text3_inj (a b : ByteArray) (x y : BitVec 32) (h : CrcP.ofL (CrcP.text3 a x b).data.toList = CrcP.ofL (CrcP.text3 a y b).data.toList) : x = y := by
  unfold CrcP.text3 CrcP.fourB at h
  have three : ∀ (l : List UInt8), ((a ++ ⟨l.toArray⟩) ++ b).data.toList = a.data.toList ++ l ++ b.data.toList := fun l => by simp
  rw [three, three] at h
  exact CrcP.burst _ _ _ _ h

set_option maxHeartbeats 400000 in
theorem crcBursts_walk (a : ByteArray) (x y : BitVec 32) (b : ByteArray) (w : World) (ha : a.size ≤ 140737488351232) (hb : b.size ≤ 140737488351232) :
    Calls Try.prog 5 #[.string a, .int .u32 x.toNat, .int .u32 y.toNat, .string b] w fun e w' => e = .returned (.bool true) ∧ Below w.heap.size w w' := by
  by_cases hl : a.size ≤ 3000
  · by_cases hl2 : b.size ≤ 3000
    · have z1 := CrcP.text3_size a b x
      have z2 := CrcP.text3_size a b y
      have k1 := CrcP.fourB_le x
      have k2 := CrcP.fourB_le y
      by_cases hxy : x = y
      · subst hxy
        go_enter Try.func5, Try.ntmps5
        go_wp2_with fail
        refine (crcFour_any x _).mono ?_
        rintro e w1 ⟨rfl, h1⟩
        go_wp2_with fail
        refine (crcFour_any x _).mono ?_
        rintro e w2 ⟨rfl, h2⟩
        go_wp2_with fail
        refine (crcSummed_any _).mono ?_
        rintro e w3 ⟨rfl, h3⟩
        go_wp2_with fail
        refine (crcOf_any (CrcP.text3 a x b) _ (by omega)).mono ?_
        rintro e w4 ⟨rfl, h4⟩
        go_wp2_with fail
        refine (crcOf_any (CrcP.text3 a x b) _ (by omega)).mono ?_
        rintro e w5 ⟨rfl, h5⟩
        go_wp2
        go_ret
        exact ⟨rfl, below_step (below_step (below_step (below_step h1 h2) h3) h4) h5⟩
      · have f1 := CrcP.beq_false hxy
        have f2 := CrcP.beq_false (fun h => hxy (CrcP.text3_inj a b x y h))
        go_enter Try.func5, Try.ntmps5
        go_wp2_with fail
        refine (crcFour_any x _).mono ?_
        rintro e w1 ⟨rfl, h1⟩
        go_wp2_with fail
        refine (crcFour_any y _).mono ?_
        rintro e w2 ⟨rfl, h2⟩
        go_wp2_with fail
        refine (crcSummed_any _).mono ?_
        rintro e w3 ⟨rfl, h3⟩
        go_wp2_with fail
        refine (crcOf_any (CrcP.text3 a x b) _ (by omega)).mono ?_
        rintro e w4 ⟨rfl, h4⟩
        go_wp2_with fail
        refine (crcOf_any (CrcP.text3 a y b) _ (by omega)).mono ?_
        rintro e w5 ⟨rfl, h5⟩
        go_wp2
        go_ret
        exact ⟨rfl, below_step (below_step (below_step (below_step h1 h2) h3) h4) h5⟩
    · go_enter Try.func5, Try.ntmps5
      go_wp2
      go_ret
      exact ⟨rfl, Below.refl _ _⟩
  · go_enter Try.func5, Try.ntmps5
    go_wp2
    go_ret
    exact ⟨rfl, Below.refl _ _⟩

end Go.Proofs.Ytlmlokhmhjggaaa
