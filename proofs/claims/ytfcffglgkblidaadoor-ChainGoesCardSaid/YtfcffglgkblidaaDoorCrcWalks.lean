
/-
  Plain facts on the sum of 32 bits: what a byte does to a sum, that it is linear, and that it can be undone. No program in sight.
-/
import Derived.Test.YtfcffglgkblidaaDoorRows
import Derived.Test.YtfcffglgkblidaaDoorBase
namespace Go.Proofs.YtfcffglgkblidaaDoor.CrcP

def poly : BitVec 32 := 3988292384#32
def bit1 (x : BitVec 32) : BitVec 32 := if x.toNat % 2 = 1 then (x >>> 1) ^^^ poly else x >>> 1
def bitN : Nat → BitVec 32 → BitVec 32
  | 0, x => x
  | n + 1, x => bit1 (bitN n x)
def wide (c : UInt8) : BitVec 32 := BitVec.ofNat 32 c.toNat
def byteB (x : BitVec 32) (c : UInt8) : BitVec 32 := bitN 8 (x ^^^ wide c)
def add (x : BitVec 32) (l : List UInt8) : BitVec 32 := l.foldl byteB x
def ones : BitVec 32 := 4294967295#32
def endB (x : BitVec 32) : BitVec 32 := x ^^^ ones
def ofL (l : List UInt8) : BitVec 32 := endB (add ones l)
theorem endB_endB (x : BitVec 32) : endB (endB x) = x := by
  unfold endB; rw [BitVec.xor_assoc, BitVec.xor_self, BitVec.xor_zero]

theorem add_append (x : BitVec 32) (a b : List UInt8) : add x (a ++ b) = add (add x a) b := by simp [add]
theorem add_nil (x : BitVec 32) : add x [] = x := rfl

theorem shr_xor (x y : BitVec 32) : (x ^^^ y) >>> 1 = (x >>> 1) ^^^ (y >>> 1) := by
  ext i hi; simp

theorem xor_odd (x y : BitVec 32) : (x ^^^ y).toNat % 2 = (x.toNat % 2 + y.toNat % 2) % 2 := by
  have h := Nat.xor_mod_two_pow (a := x.toNat) (b := y.toNat) (n := 1)
  simp only [Nat.pow_one] at h
  rw [BitVec.toNat_xor, h]
  rcases Nat.mod_two_eq_zero_or_one x.toNat with a | a <;> rcases Nat.mod_two_eq_zero_or_one y.toNat with b | b <;> rw [a, b] <;> rfl

theorem xor_swap (a b c d : BitVec 32) : (a ^^^ b) ^^^ (c ^^^ d) = (a ^^^ c) ^^^ (b ^^^ d) := by
  rw [BitVec.xor_assoc, BitVec.xor_assoc, ← BitVec.xor_assoc b c d, BitVec.xor_comm b c, BitVec.xor_assoc c b d]

theorem bit1_xor (x y : BitVec 32) : bit1 (x ^^^ y) = bit1 x ^^^ bit1 y := by
  unfold bit1
  rw [xor_odd, shr_xor]
  rcases Nat.mod_two_eq_zero_or_one x.toNat with a | a <;> rcases Nat.mod_two_eq_zero_or_one y.toNat with b | b <;> rw [a, b]
  · rfl
  · simp [BitVec.xor_assoc]
  · simp only [Nat.add_zero, Nat.one_mod]; simp only [if_true, if_false, Nat.zero_ne_one]
    rw [BitVec.xor_assoc, BitVec.xor_assoc, BitVec.xor_comm poly]
  · simp only [if_true]; rw [xor_swap, BitVec.xor_self, BitVec.xor_zero]; rfl

theorem bitN_xor (n : Nat) (x y : BitVec 32) : bitN n (x ^^^ y) = bitN n x ^^^ bitN n y := by
  induction n with
  | zero => rfl
  | succ n ih => simp only [bitN, ih, bit1_xor]

theorem bitN_add (n m : Nat) (x : BitVec 32) : bitN (n + m) x = bitN n (bitN m x) := by
  induction n with
  | zero => simp [bitN]
  | succ n ih => rw [Nat.succ_add]; simp only [bitN, ih]

theorem bit1_top (x : BitVec 32) : (bit1 x).toNat / 2147483648 = x.toNat % 2 := by
  have hx : x.toNat < 4294967296 := x.isLt
  have hs : (x >>> 1).toNat = x.toNat / 2 := by simp [Nat.shiftRight_eq_div_pow]
  unfold bit1
  rcases Nat.mod_two_eq_zero_or_one x.toNat with a | a
  · rw [a, if_neg (by omega), hs]; omega
  · rw [a, if_pos rfl, BitVec.toNat_xor, hs]
    have := Nat.xor_div_two_pow (a := x.toNat / 2) (b := poly.toNat) (n := 31)
    have hp : (2 : Nat) ^ 31 = 2147483648 := by decide
    rw [hp] at this
    rw [this, show x.toNat / 2 / 2147483648 = 0 by omega]
    decide

theorem xor_cancel (a b p : BitVec 32) (h : a ^^^ p = b ^^^ p) : a = b := by
  have : (a ^^^ p) ^^^ p = (b ^^^ p) ^^^ p := by rw [h]
  simpa [BitVec.xor_assoc] using this

theorem bit1_inj (x y : BitVec 32) (h : bit1 x = bit1 y) : x = y := by
  have ho : x.toNat % 2 = y.toNat % 2 := by rw [← bit1_top, ← bit1_top, h]
  have hs : ∀ z : BitVec 32, (z >>> 1).toNat = z.toNat / 2 := by intro z; simp [Nat.shiftRight_eq_div_pow]
  have hh : x >>> 1 = y >>> 1 := by
    unfold bit1 at h
    rw [ho] at h
    split at h
    · exact xor_cancel _ _ _ h
    · exact h
  have h2 : x.toNat / 2 = y.toNat / 2 := by rw [← hs, ← hs, hh]
  apply BitVec.eq_of_toNat_eq; omega

theorem bitN_inj (n : Nat) (x y : BitVec 32) (h : bitN n x = bitN n y) : x = y := by
  induction n with
  | zero => exact h
  | succ n ih => exact ih (bit1_inj _ _ h)

theorem add_inj (l : List UInt8) : ∀ x y : BitVec 32, add x l = add y l → x = y := by
  induction l with
  | nil => intro x y h; exact h
  | cons c l ih => intro x y h; exact xor_cancel _ _ _ (bitN_inj 8 _ _ (ih _ _ h))

theorem wide_xor (a b : UInt8) : wide (a ^^^ b) = wide a ^^^ wide b := by
  apply BitVec.eq_of_toNat_eq
  have ha := a.toNat_lt; have hb := b.toNat_lt
  have hx : a.toNat ^^^ b.toNat < 256 := Nat.xor_lt_two_pow (n := 8) ha hb
  simp only [wide, BitVec.toNat_xor, BitVec.toNat_ofNat, UInt8.toNat_xor]
  rw [Nat.mod_eq_of_lt (by omega), Nat.mod_eq_of_lt (by omega), Nat.mod_eq_of_lt (by omega)]

theorem byteB_xor (x y : BitVec 32) (a b : UInt8) : byteB (x ^^^ y) (a ^^^ b) = byteB x a ^^^ byteB y b := by
  unfold byteB
  rw [wide_xor, xor_swap, bitN_xor]

/-- Three texts of one length, bit by bit against one another. -/
def turn3 : List UInt8 → List UInt8 → List UInt8 → List UInt8
  | a :: s, b :: t, c :: u => (a ^^^ b ^^^ c) :: turn3 s t u
  | _, _, _ => []

theorem add_turn3 : ∀ (s t u : List UInt8) (x y z : BitVec 32), s.length = t.length → t.length = u.length →
    add (x ^^^ y ^^^ z) (turn3 s t u) = add x s ^^^ add y t ^^^ add z u
  | [], [], [], _, _, _, _, _ => rfl
  | a :: s, b :: t, c :: u, x, y, z, h1, h2 => by
    have := add_turn3 s t u (byteB x a) (byteB y b) (byteB z c) (by simpa using h1) (by simpa using h2)
    simp only [add, turn3, List.foldl_cons] at this ⊢
    rw [← this, ← byteB_xor, ← byteB_xor]
  | [], [], _ :: _, _, _, _, _, h2 => by simp at h2
  | [], _ :: _, _, _, _, _, h1, _ => by simp at h1
  | _ :: _, [], _, _, _, _, h1, _ => by simp at h1
  | _ :: _, _ :: _, [], _, _, _, _, h2 => by simp at h2

theorem ofL_turn3 (s t u : List UInt8) (h1 : s.length = t.length) (h2 : t.length = u.length) : ofL (turn3 s t u) = ofL s ^^^ ofL t ^^^ ofL u := by
  unfold ofL endB
  have e : ones = ones ^^^ ones ^^^ ones := by decide
  rw [show add ones (turn3 s t u) = add (ones ^^^ ones ^^^ ones) (turn3 s t u) from by rw [← e], add_turn3 s t u _ _ _ h1 h2]
  rw [xor_swap (add ones s) ones, xor_swap (add ones s ^^^ add ones t) (ones ^^^ ones)]
  rw [← e]

theorem ofL_inj {a b : List UInt8} (h : ofL a = ofL b) : add ones a = add ones b := xor_cancel _ _ _ h

/-- A number with eight noughts below: eight steps take them off. -/
theorem bit1_shl (x : BitVec 32) (n : Nat) (h : x.toNat = 2 * n) : (bit1 x).toNat = n := by
  unfold bit1
  rw [if_neg (by omega)]
  simp [Nat.shiftRight_eq_div_pow, h]

theorem bitN_shl (k : Nat) : ∀ (x : BitVec 32) (n : Nat), x.toNat = 2 ^ k * n → (bitN k x).toNat = n := by
  induction k with
  | zero => intro x n h; simpa [bitN] using h
  | succ k ih =>
    intro x n h
    have h1 : (bitN k x).toNat = 2 * n := ih x (2 * n) (by rw [h, Nat.pow_succ, Nat.mul_assoc])
    exact bit1_shl _ _ h1

theorem byteB_step (x : BitVec 32) (c : UInt8) (n : Nat) (h : n < 16777216) :
    byteB x c ^^^ BitVec.ofNat 32 n = bitN 8 (x ^^^ wide c ^^^ BitVec.ofNat 32 (256 * n)) := by
  rw [bitN_xor]
  congr 1
  apply BitVec.eq_of_toNat_eq
  rw [bitN_shl 8 (BitVec.ofNat 32 (256 * n)) n (by simp only [BitVec.toNat_ofNat]; rw [Nat.mod_eq_of_lt (by omega)])]
  simp only [BitVec.toNat_ofNat]; omega

theorem xor_disjoint (n : Nat) (a b : Nat) (k : Nat) (ha : a < 2 ^ k) : BitVec.ofNat n a ^^^ BitVec.ofNat n (2 ^ k * b) = BitVec.ofNat n (a + 2 ^ k * b) := by
  have h : a ^^^ (2 ^ k * b) = a + 2 ^ k * b := by
    refine Nat.eq_of_testBit_eq fun i => ?_
    rw [Nat.testBit_xor, Nat.testBit_two_pow_mul, Nat.add_comm, Nat.testBit_two_pow_mul_add b ha]
    by_cases hi : i < k
    · simp [hi, Nat.not_le.2 hi]
    · have : a.testBit i = false := Nat.testBit_lt_two_pow (Nat.lt_of_lt_of_le ha (Nat.pow_le_pow_right (by decide) (by omega)))
      simp [hi, Nat.not_lt.1 hi, this]
  rw [← h]
  apply BitVec.eq_of_toNat_eq
  simp

theorem add_four (x : BitVec 32) (b0 b1 b2 b3 : UInt8) :
    add x [b0, b1, b2, b3] = bitN 32 (x ^^^ BitVec.ofNat 32 (b0.toNat + 256 * (b1.toNat + 256 * (b2.toNat + 256 * b3.toNat)))) := by
  have h0 := b0.toNat_lt; have h1 := b1.toNat_lt; have h2 := b2.toNat_lt; have h3 := b3.toNat_lt
  have e : ∀ (c : UInt8) (n : Nat), wide c ^^^ BitVec.ofNat 32 (256 * n) = BitVec.ofNat 32 (c.toNat + 256 * n) := fun c n => xor_disjoint 32 c.toNat n 8 c.toNat_lt
  have s : ∀ (y : BitVec 32) (c : UInt8) (n : Nat), n < 16777216 → bitN 8 (y ^^^ BitVec.ofNat 32 (c.toNat + 256 * n)) = byteB y c ^^^ BitVec.ofNat 32 n := by
    intro y c n hn; rw [byteB_step y c n hn, BitVec.xor_assoc, e]
  have n32 : ∀ z, bitN 32 z = bitN 8 (bitN 8 (bitN 8 (bitN 8 z))) := fun z => by rw [← bitN_add, ← bitN_add, ← bitN_add]
  rw [n32]
  rw [s x b0 _ (by omega), s (byteB x b0) b1 _ (by omega), s _ b2 _ (by omega)]
  rfl

end Go.Proofs.YtfcffglgkblidaaDoor.CrcP

/-
  The walks of package crc and of its reference: what Add, End, Start and Of compute, for every argument.
-/
namespace Go.Proofs.YtfcffglgkblidaaDoor
open Go.RowKit

abbrev CrcP.u32v (x : BitVec 32) : Value := .int .u32 (x.toNat : Int)

theorem CrcP.bxor (x y : BitVec 32) : bits .xor .u32 (x.toNat : Int) (y.toNat : Int) = ((x ^^^ y).toNat : Int) := by
  show IntKind.u32.wrap ((BitVec.ofInt 32 (x.toNat : Int) ^^^ BitVec.ofInt 32 (y.toNat : Int)).toNat : Int) = _
  simp only [BitVec.ofInt_natCast, BitVec.ofNat_toNat, BitVec.setWidth_eq]
  exact IntWalk.u32_in _ (by have := (x ^^^ y).isLt; omega)

theorem CrcP.bxor_byte (x : BitVec 32) (c : UInt8) : bits .xor .u32 (x.toNat : Int) (c.toNat : Int) = ((x ^^^ CrcP.wide c).toNat : Int) := by
  rw [← CrcP.bxor]
  congr 1
  have := c.toNat_lt
  simp only [CrcP.wide, BitVec.toNat_ofNat]; omega

theorem CrcP.bxor_poly (x : BitVec 32) : bits .xor .u32 ((x >>> 1).toNat : Int) 3988292384 = ((x >>> 1 ^^^ CrcP.poly).toNat : Int) := by
  rw [← CrcP.bxor]; rfl

theorem CrcP.half (x : BitVec 32) : (x.toNat : Int) / (2 : Int) = ((x >>> 1).toNat : Int) := by
  simp [Nat.shiftRight_eq_div_pow]

theorem CrcP.odd_band (x : BitVec 32) : (bits .and .u32 (x.toNat : Int) 1 == 1) = decide (x.toNat % 2 = 1) := by
  have h : bits .and .u32 (x.toNat : Int) 1 = ((x.toNat % 2 : Nat) : Int) := by
    have := (bits_nat .u32 32 (by decide) (fun n h0 h1 => IntWalk.u32_in n (by omega)) x.toNat 1 x.isLt (by decide)).1
    rw [show (1 : Int) = ((1 : Nat) : Int) from rfl, this, Nat.and_one_is_mod]
  rw [h, Bool.eq_iff_iff]; simp; omega

theorem CrcP.bit1_odd (x : BitVec 32) (h : (bits .and .u32 (x.toNat : Int) 1 == 1) = true) :
    bits .xor .u32 ((x.toNat : Int) / (2 : Int)) 3988292384 = ((CrcP.bit1 x).toNat : Int) := by
  rw [CrcP.odd_band, decide_eq_true_iff] at h
  rw [CrcP.half, CrcP.bxor_poly, CrcP.bit1, if_pos h]

theorem CrcP.bit1_even (x : BitVec 32) (h : (bits .and .u32 (x.toNat : Int) 1 == 1) = false) :
    (x.toNat : Int) / (2 : Int) = ((CrcP.bit1 x).toNat : Int) := by
  rw [CrcP.odd_band, decide_eq_false_iff_not] at h
  rw [CrcP.half, CrcP.bit1, if_neg h]

theorem CrcP.bit1_odd' (x : BitVec 32) (h : (((x.toNat : Int) % 2) == 1) = true) :
    bits .xor .u32 ((x.toNat : Int) / (2 : Int)) 3988292384 = ((CrcP.bit1 x).toNat : Int) := by
  refine CrcP.bit1_odd x ?_
  rw [CrcP.odd_band, decide_eq_true_iff]; simp at h; omega

theorem CrcP.bit1_even' (x : BitVec 32) (h : (((x.toNat : Int) % 2) == 1) = false) :
    (x.toNat : Int) / (2 : Int) = ((CrcP.bit1 x).toNat : Int) := by
  refine CrcP.bit1_even x ?_
  rw [CrcP.odd_band, decide_eq_false_iff_not]; simp at h; omega

theorem CrcP.int_u32 {a b : Int} (h : a = b) : Value.int .u32 a = Value.int .u32 b := by rw [h]
theorem CrcP.ret_u32 {a b : Int} (h : a = b) : Ending.returned (.int .u32 a) = .returned (.int .u32 b) := by rw [h]

theorem CrcP.not32 (x : BitVec 32) : bits .xor .u32 IntKind.u32.max (x.toNat : Int) = ((CrcP.endB x).toNat : Int) := by
  have h : IntKind.u32.max = (CrcP.ones.toNat : Int) := by decide
  rw [h, CrcP.bxor, BitVec.xor_comm]; rfl

set_option maxHeartbeats 400000 in
theorem crcEnd_any (x : BitVec 32) (w : World) :
    Calls Tryd.prog 60 #[.int .u32 x.toNat] w fun e w' => e = .returned (.int .u32 (CrcP.endB x).toNat) ∧ w = w' := by
  go_enter Tryd.func60, Tryd.ntmps60
  go_wp2
  go_ret
  exact ⟨CrcP.ret_u32 (CrcP.not32 x), rfl⟩

set_option maxHeartbeats 400000 in
theorem crcStart_any (w : World) :
    Calls Tryd.prog 62 #[] w fun e w' => e = .returned (.int .u32 CrcP.ones.toNat) ∧ w = w' := by
  go_enter Tryd.func62, Tryd.ntmps62
  go_wp2
  go_ret
  exact ⟨rfl, rfl⟩

set_option maxHeartbeats 400000 in
theorem crcStep_any (c : UInt8) (s : BitVec 32) (p : Addr) (w : World) (hcell : w.cell? p = some (.int .u32 s.toNat)) (hf : w.frozen? p = false) :
    Calls Tryd.prog 80 #[.int .u8 c.toNat, .pointer (some p)] w fun e w' => e = .returned (.tuple #[]) ∧ w.setCell p (.int .u32 (CrcP.byteB s c).toNat) = w' := by
  have hc := c.toNat_lt
  have HX := Lib.hid (CrcP.bxor_byte s c)
  go_enter Tryd.func80, Tryd.ntmps80
  go_wp2
  go_loopw [8] (fun i wr => ∃ k : Nat, k ≤ 8 ∧ i = .int .i64 k ∧ wr = w.setCell p (.int .u32 (CrcP.bitN k (s ^^^ CrcP.wide c)).toNat)) (fun i _ => 8 - (intOf i).toNat)
  case atStart => exact ⟨0, by omega, rfl, by rw [HX.out]; rfl⟩
  case round =>
    obtain ⟨k, hk, rfl, rfl⟩ := hrel
    obtain ⟨x, hx⟩ : ∃ x, x = CrcP.bitN k (s ^^^ CrcP.wide c) := ⟨_, rfl⟩
    have HX2 := Lib.hid hx
    rw [← hx]
    clear hx
    go_wp2
    · have hodd : (bits .and .u32 (x.toNat : Int) 1 == 1) = true := by assumption
      go_roundw
      case rel => exact ⟨k + 1, by omega, by go_num, by rw [CrcP.bit1_odd x hodd, CrcP.bitN, ← HX2.out, setCell2, setCell2]⟩
      case measure => simp [intOf]; omega
    · have hodd : (bits .and .u32 (x.toNat : Int) 1 == 1) = false := by assumption
      go_roundw
      case rel => exact ⟨k + 1, by omega, by go_num, by rw [CrcP.bit1_even x hodd, CrcP.bitN, ← HX2.out, setCell2]⟩
      case measure => simp [intOf]; omega
    · obtain rfl : k = 8 := by omega
      go_end0
      exact ⟨rfl, by rw [HX2.out]; rfl⟩

theorem CrcP.add_take (x : BitVec 32) (l : List UInt8) (k : Nat) (h : k < l.length) : CrcP.add x (l.take (k + 1)) = CrcP.byteB (CrcP.add x (l.take k)) (l[k]) := by
  rw [List.take_succ_eq_append_getElem h, CrcP.add_append]; rfl

set_option maxHeartbeats 400000 in
theorem crcAdd_any (x : BitVec 32) (b : ByteArray) (w : World) (hs : b.size ≤ 9223372036854775807) :
    Calls Tryd.prog 61 #[.int .u32 x.toNat, .string b] w fun e w' => e = .returned (.int .u32 (CrcP.add x b.data.toList).toNat) ∧ Below w.heap.size w w' := by
  go_enter Tryd.func61, Tryd.ntmps61
  go_wp2
  go_loopw [10] (fun i wr => ∃ k : Nat, k ≤ b.size ∧ i = .int .i64 k ∧ wr = w.alloc (.cells #[.int .u32 (CrcP.add x (b.data.toList.take k)).toNat] 61)) (fun i _ => b.size - (intOf i).toNat)
  case atStart => exact ⟨0, by omega, rfl, rfl⟩
  case round =>
    obtain ⟨k, hk, rfl, rfl⟩ := hrel
    by_cases hlt : k < b.size
    · have HT := Lib.hid (CrcP.add_take x b.data.toList k (by simpa using hlt))
      go_wp2_with fail
      refine (crcStep_any _ (CrcP.add x (b.data.toList.take k)) _ _ (by rw [World.cell?_alloc_at _ _ _ _ rfl]; rfl) (World.frozen?_alloc_at _ _ _ _ rfl)).mono ?_
      rintro e w' ⟨rfl, rfl⟩
      go_wp2
      go_roundw
      case rel => exact ⟨k + 1, by omega, by go_num, by rw [HT.out]; rfl⟩
      case measure => simp [intOf]; omega
    · go_wp2
      go_ret
      exact ⟨by rw [List.take_of_length_le (by simp; omega)]; rfl, (Below.refl _ _).alloc (Nat.le_refl _) _⟩

set_option maxHeartbeats 400000 in
theorem crcRefAdd_any (x : BitVec 32) (b : ByteArray) (w : World) (hs : b.size ≤ 9223372036854775807) :
    Calls Tryd.prog 65 #[.int .u32 x.toNat, .string b] w fun e w' => e = .returned (.int .u32 (CrcP.add x b.data.toList).toNat) ∧ w = w' := by
  go_enter Tryd.func65, Tryd.ntmps65
  go_wp2
  go_loop [0, 5, 6, 7] (fun s i _ _ => ∃ k : Nat, k ≤ b.size ∧ i = .int .i64 k ∧ s = .int .u32 (CrcP.add x (b.data.toList.take k)).toNat) (fun _ i _ _ => b.size - (intOf i).toNat)
  case atStart => exact ⟨0, by omega, rfl, rfl⟩
  case round =>
    obtain ⟨k, hk, rfl, rfl⟩ := hrel
    by_cases hlt : k < b.size
    · have HT := Lib.hid (CrcP.add_take x b.data.toList k (by simpa using hlt))
      have hc := b[k].toNat_lt
      generalize hy : CrcP.add x (b.data.toList.take k) = y at HT ⊢
      clear hy
      have HX := Lib.hid (CrcP.bxor_byte y b[k])
      go_wp2
      go_loop [0, 6, 7] (fun s i _ => ∃ n : Nat, n ≤ 8 ∧ i = .int .i64 n ∧ s = .int .u32 (CrcP.bitN n (y ^^^ CrcP.wide b[k])).toNat) (fun _ i _ => 8 - (intOf i).toNat)
      case atStart => exact ⟨0, by omega, rfl, by rw [HX.out]; rfl⟩
      case round =>
        obtain ⟨n, hn, rfl, rfl⟩ := hrel
        generalize hz : CrcP.bitN n (y ^^^ CrcP.wide b[k]) = z
        have HZ := Lib.hid hz
        clear hz
        go_wp2
        · have hodd : ((z.toNat : Int) % 2 == 1) = true := by assumption
          go_round
          case rel => exact ⟨n + 1, by omega, by go_num, by rw [CrcP.bit1_odd' z hodd, CrcP.bitN, HZ.out]⟩
          case measure => simp [intOf]; omega
        · have hodd : ((z.toNat : Int) % 2 == 1) = false := by assumption
          go_round
          case rel => exact ⟨n + 1, by omega, by go_num, by rw [CrcP.bit1_even' z hodd, CrcP.bitN, HZ.out]⟩
          case measure => simp [intOf]; omega
        · obtain rfl : n = 8 := by omega
          go_round
          case rel => exact ⟨k + 1, by omega, by go_num, by rw [HT.out, ← HZ.out]; rfl⟩
          case measure => simp [intOf]; omega
    · go_wp2
      go_ret
      exact ⟨by rw [List.take_of_length_le (by simp; omega)]; rfl, rfl⟩

set_option maxHeartbeats 400000 in
theorem crcOf_any (b : ByteArray) (w : World) (hs : b.size ≤ 9223372036854775807) :
    Calls Tryd.prog 40 #[.string b] w fun e w' => e = .returned (.int .u32 (CrcP.ofL b.data.toList).toNat) ∧ Below w.heap.size w w' := by
  go_enter Tryd.func40, Tryd.ntmps40
  go_wp2_with fail
  refine (crcStart_any _).mono ?_
  rintro e w' ⟨rfl, rfl⟩
  go_wp2_with fail
  refine (crcAdd_any _ _ _ hs).mono ?_
  rintro e w' ⟨rfl, hb⟩
  go_wp2_with fail
  refine (crcEnd_any _ _).mono ?_
  rintro e w1 ⟨rfl, rfl⟩
  go_wp2
  go_ret
  exact ⟨rfl, hb⟩

set_option maxHeartbeats 400000 in
theorem crcRefOf_any (b : ByteArray) (w : World) (hs : b.size ≤ 9223372036854775807) :
    Calls Tryd.prog 47 #[.string b] w fun e w' => e = .returned (.int .u32 (CrcP.ofL b.data.toList).toNat) ∧ w = w' := by
  go_enter Tryd.func47, Tryd.ntmps47
  go_wp2_with fail
  refine (crcRefAdd_any CrcP.ones _ _ hs).mono ?_
  rintro e w1 ⟨rfl, rfl⟩
  have HX := Lib.hid (CrcP.bxor (CrcP.add CrcP.ones b.data.toList) CrcP.ones)
  go_wp2
  go_ret
  exact ⟨CrcP.ret_u32 HX.out, rfl⟩

end Go.Proofs.YtfcffglgkblidaaDoor
