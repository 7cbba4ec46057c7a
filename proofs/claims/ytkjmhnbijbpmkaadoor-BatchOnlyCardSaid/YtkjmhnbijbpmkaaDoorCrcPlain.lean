
/-
  Plain facts on the sum of 32 bits: what a byte does to a sum, that it is linear, and that it can be undone. No program in sight.
-/
namespace Go.Proofs.YtkjmhnbijbpmkaaDoor.CrcP

def poly : BitVec 32 := 3988292384#32
def bit1 (x : BitVec 32) : BitVec 32 := if x.toNat % 2 = 1 then (x >>> 1) ^^^ poly else x >>> 1
def bitN : Nat → BitVec 32 → BitVec 32
  | 0, x => x
  | n + 1, x => bit1 (bitN n x)
def wide (c : UInt8) : BitVec 32 := BitVec.ofNat 32 c.toNat
def byteB (x : BitVec 32) (c : UInt8) : BitVec 32 := bitN 8 (x ^^^ wide c)
def add (x : BitVec 32) (l : List UInt8) : BitVec 32 := l.foldl byteB x
def ones : BitVec 32 := 4294967295#32
def endB (x : BitVec 32) : BitVec 32 := x ^^^ ones
def ofL (l : List UInt8) : BitVec 32 := endB (add ones l)
theorem endB_endB (x : BitVec 32) : endB (endB x) = x := by
  unfold endB; rw [BitVec.xor_assoc, BitVec.xor_self, BitVec.xor_zero]

theorem add_append (x : BitVec 32) (a b : List UInt8) : add x (a ++ b) = add (add x a) b := by simp [add]
theorem add_nil (x : BitVec 32) : add x [] = x := rfl

theorem shr_xor (x y : BitVec 32) : (x ^^^ y) >>> 1 = (x >>> 1) ^^^ (y >>> 1) := by
  ext i hi; simp

theorem xor_odd (x y : BitVec 32) : (x ^^^ y).toNat % 2 = (x.toNat % 2 + y.toNat % 2) % 2 := by
  have h := Nat.xor_mod_two_pow (a := x.toNat) (b := y.toNat) (n := 1)
  simp only [Nat.pow_one] at h
  rw [BitVec.toNat_xor, h]
  rcases Nat.mod_two_eq_zero_or_one x.toNat with a | a <;> rcases Nat.mod_two_eq_zero_or_one y.toNat with b | b <;> rw [a, b] <;> rfl

theorem xor_swap (a b c d : BitVec 32) : (a ^^^ b) ^^^ (c ^^^ d) = (a ^^^ c) ^^^ (b ^^^ d) := by
  rw [BitVec.xor_assoc, BitVec.xor_assoc, ← BitVec.xor_assoc b c d, BitVec.xor_comm b c, BitVec.xor_assoc c b d]

theorem bit1_xor (x y : BitVec 32) : bit1 (x ^^^ y) = bit1 x ^^^ bit1 y := by
  unfold bit1
  rw [xor_odd, shr_xor]
  rcases Nat.mod_two_eq_zero_or_one x.toNat with a | a <;> rcases Nat.mod_two_eq_zero_or_one y.toNat with b | b <;> rw [a, b]
  · rfl
  · simp [BitVec.xor_assoc]
  · simp only [Nat.add_zero, Nat.one_mod]; simp only [if_true, if_false, Nat.zero_ne_one]
    rw [BitVec.xor_assoc, BitVec.xor_assoc, BitVec.xor_comm poly]
  · simp only [if_true]; rw [xor_swap, BitVec.xor_self, BitVec.xor_zero]; rfl

theorem bitN_xor (n : Nat) (x y : BitVec 32) : bitN n (x ^^^ y) = bitN n x ^^^ bitN n y := by
  induction n with
  | zero => rfl
  | succ n ih => simp only [bitN, ih, bit1_xor]

theorem bitN_add (n m : Nat) (x : BitVec 32) : bitN (n + m) x = bitN n (bitN m x) := by
  induction n with
  | zero => simp [bitN]
  | succ n ih => rw [Nat.succ_add]; simp only [bitN, ih]

theorem bit1_top (x : BitVec 32) : (bit1 x).toNat / 2147483648 = x.toNat % 2 := by
  have hx : x.toNat < 4294967296 := x.isLt
  have hs : (x >>> 1).toNat = x.toNat / 2 := by simp [Nat.shiftRight_eq_div_pow]
  unfold bit1
  rcases Nat.mod_two_eq_zero_or_one x.toNat with a | a
  · rw [a, if_neg (by omega), hs]; omega
  · rw [a, if_pos rfl, BitVec.toNat_xor, hs]
    have := Nat.xor_div_two_pow (a := x.toNat / 2) (b := poly.toNat) (n := 31)
    have hp : (2 : Nat) ^ 31 = 2147483648 := by decide
    rw [hp] at this
    rw [this, show x.toNat / 2 / 2147483648 = 0 by omega]
    decide

theorem xor_cancel (a b p : BitVec 32) (h : a ^^^ p = b ^^^ p) : a = b := by
  have : (a ^^^ p) ^^^ p = (b ^^^ p) ^^^ p := by rw [h]
  simpa [BitVec.xor_assoc] using this

theorem bit1_inj (x y : BitVec 32) (h : bit1 x = bit1 y) : x = y := by
  have ho : x.toNat % 2 = y.toNat % 2 := by rw [← bit1_top, ← bit1_top, h]
  have hs : ∀ z : BitVec 32, (z >>> 1).toNat = z.toNat / 2 := by intro z; simp [Nat.shiftRight_eq_div_pow]
  have hh : x >>> 1 = y >>> 1 := by
    unfold bit1 at h
    rw [ho] at h
    split at h
    · exact xor_cancel _ _ _ h
    · exact h
  have h2 : x.toNat / 2 = y.toNat / 2 := by rw [← hs, ← hs, hh]
  apply BitVec.eq_of_toNat_eq; omega

theorem bitN_inj (n : Nat) (x y : BitVec 32) (h : bitN n x = bitN n y) : x = y := by
  induction n with
  | zero => exact h
  | succ n ih => exact ih (bit1_inj _ _ h)

theorem add_inj (l : List UInt8) : ∀ x y : BitVec 32, add x l = add y l → x = y := by
  induction l with
  | nil => intro x y h; exact h
  | cons c l ih => intro x y h; exact xor_cancel _ _ _ (bitN_inj 8 _ _ (ih _ _ h))

theorem wide_xor (a b : UInt8) : wide (a ^^^ b) = wide a ^^^ wide b := by
  apply BitVec.eq_of_toNat_eq
  have ha := a.toNat_lt; have hb := b.toNat_lt
  have hx : a.toNat ^^^ b.toNat < 256 := Nat.xor_lt_two_pow (n := 8) ha hb
  simp only [wide, BitVec.toNat_xor, BitVec.toNat_ofNat, UInt8.toNat_xor]
  rw [Nat.mod_eq_of_lt (by omega), Nat.mod_eq_of_lt (by omega), Nat.mod_eq_of_lt (by omega)]

theorem byteB_xor (x y : BitVec 32) (a b : UInt8) : byteB (x ^^^ y) (a ^^^ b) = byteB x a ^^^ byteB y b := by
  unfold byteB
  rw [wide_xor, xor_swap, bitN_xor]

/-- Three texts of one length, bit by bit against one another. -/
def turn3 : List UInt8 → List UInt8 → List UInt8 → List UInt8
  | a :: s, b :: t, c :: u => (a ^^^ b ^^^ c) :: turn3 s t u
  | _, _, _ => []

theorem add_turn3 : ∀ (s t u : List UInt8) (x y z : BitVec 32), s.length = t.length → t.length = u.length →
    add (x ^^^ y ^^^ z) (turn3 s t u) = add x s ^^^ add y t ^^^ add z u
  | [], [], [], _, _, _, _, _ => rfl
  | a :: s, b :: t, c :: u, x, y, z, h1, h2 => by
    have := add_turn3 s t u (byteB x a) (byteB y b) (byteB z c) (by simpa using h1) (by simpa using h2)
    simp only [add, turn3, List.foldl_cons] at this ⊢
    rw [← this, ← byteB_xor, ← byteB_xor]
  | [], [], _ :: _, _, _, _, _, h2 => by simp at h2
  | [], _ :: _, _, _, _, _, h1, _ => by simp at h1
  | _ :: _, [], _, _, _, _, h1, _ => by simp at h1
  | _ :: _, _ :: _, [], _, _, _, _, h2 => by simp at h2

theorem ofL_turn3 (s t u : List UInt8) (h1 : s.length = t.length) (h2 : t.length = u.length) : ofL (turn3 s t u) = ofL s ^^^ ofL t ^^^ ofL u := by
  unfold ofL endB
  have e : ones = ones ^^^ ones ^^^ ones := by decide
  rw [show add ones (turn3 s t u) = add (ones ^^^ ones ^^^ ones) (turn3 s t u) from by rw [← e], add_turn3 s t u _ _ _ h1 h2]
  rw [xor_swap (add ones s) ones, xor_swap (add ones s ^^^ add ones t) (ones ^^^ ones)]
  rw [← e]

theorem ofL_inj {a b : List UInt8} (h : ofL a = ofL b) : add ones a = add ones b := xor_cancel _ _ _ h

/-- A number with eight noughts below: eight steps take them off. -/
theorem bit1_shl (x : BitVec 32) (n : Nat) (h : x.toNat = 2 * n) : (bit1 x).toNat = n := by
  unfold bit1
  rw [if_neg (by omega)]
  simp [Nat.shiftRight_eq_div_pow, h]

theorem bitN_shl (k : Nat) : ∀ (x : BitVec 32) (n : Nat), x.toNat = 2 ^ k * n → (bitN k x).toNat = n := by
  induction k with
  | zero => intro x n h; simpa [bitN] using h
  | succ k ih =>
    intro x n h
    have h1 : (bitN k x).toNat = 2 * n := ih x (2 * n) (by rw [h, Nat.pow_succ, Nat.mul_assoc])
    exact bit1_shl _ _ h1

theorem byteB_step (x : BitVec 32) (c : UInt8) (n : Nat) (h : n < 16777216) :
    byteB x c ^^^ BitVec.ofNat 32 n = bitN 8 (x ^^^ wide c ^^^ BitVec.ofNat 32 (256 * n)) := by
  rw [bitN_xor]
  congr 1
  apply BitVec.eq_of_toNat_eq
  rw [bitN_shl 8 (BitVec.ofNat 32 (256 * n)) n (by simp only [BitVec.toNat_ofNat]; rw [Nat.mod_eq_of_lt (by omega)])]
  simp only [BitVec.toNat_ofNat]; omega

theorem xor_disjoint (n : Nat) (a b : Nat) (k : Nat) (ha : a < 2 ^ k) : BitVec.ofNat n a ^^^ BitVec.ofNat n (2 ^ k * b) = BitVec.ofNat n (a + 2 ^ k * b) := by
  have h : a ^^^ (2 ^ k * b) = a + 2 ^ k * b := by
    refine Nat.eq_of_testBit_eq fun i => ?_
    rw [Nat.testBit_xor, Nat.testBit_two_pow_mul, Nat.add_comm, Nat.testBit_two_pow_mul_add b ha]
    by_cases hi : i < k
    · simp [hi, Nat.not_le.2 hi]
    · have : a.testBit i = false := Nat.testBit_lt_two_pow (Nat.lt_of_lt_of_le ha (Nat.pow_le_pow_right (by decide) (by omega)))
      simp [hi, Nat.not_lt.1 hi, this]
  rw [← h]
  apply BitVec.eq_of_toNat_eq
  simp

theorem add_four (x : BitVec 32) (b0 b1 b2 b3 : UInt8) :
    add x [b0, b1, b2, b3] = bitN 32 (x ^^^ BitVec.ofNat 32 (b0.toNat + 256 * (b1.toNat + 256 * (b2.toNat + 256 * b3.toNat)))) := by
  have h0 := b0.toNat_lt; have h1 := b1.toNat_lt; have h2 := b2.toNat_lt; have h3 := b3.toNat_lt
  have e : ∀ (c : UInt8) (n : Nat), wide c ^^^ BitVec.ofNat 32 (256 * n) = BitVec.ofNat 32 (c.toNat + 256 * n) := fun c n => xor_disjoint 32 c.toNat n 8 c.toNat_lt
  have s : ∀ (y : BitVec 32) (c : UInt8) (n : Nat), n < 16777216 → bitN 8 (y ^^^ BitVec.ofNat 32 (c.toNat + 256 * n)) = byteB y c ^^^ BitVec.ofNat 32 n := by
    intro y c n hn; rw [byteB_step y c n hn, BitVec.xor_assoc, e]
  have n32 : ∀ z, bitN 32 z = bitN 8 (bitN 8 (bitN 8 (bitN 8 z))) := fun z => by rw [← bitN_add, ← bitN_add, ← bitN_add]
  rw [n32]
  rw [s x b0 _ (by omega), s (byteB x b0) b1 _ (by omega), s _ b2 _ (by omega)]
  rfl

end Go.Proofs.YtkjmhnbijbpmkaaDoor.CrcP
