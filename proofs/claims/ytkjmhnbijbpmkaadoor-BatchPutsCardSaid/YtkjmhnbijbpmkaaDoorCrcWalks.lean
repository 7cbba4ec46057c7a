
/-
  The walks of package crc and of its reference: what Add, End, Start and Of compute, for every argument.
-/
import Derived.Test.YtkjmhnbijbpmkaaDoorRows
import Derived.Test.YtkjmhnbijbpmkaaDoorCrcPlain
import Derived.Test.YtkjmhnbijbpmkaaDoorBase
namespace Go.Proofs.YtkjmhnbijbpmkaaDoor
open Go.RowKit

abbrev CrcP.u32v (x : BitVec 32) : Value := .int .u32 (x.toNat : Int)

theorem CrcP.bxor (x y : BitVec 32) : bits .xor .u32 (x.toNat : Int) (y.toNat : Int) = ((x ^^^ y).toNat : Int) := by
  show IntKind.u32.wrap ((BitVec.ofInt 32 (x.toNat : Int) ^^^ BitVec.ofInt 32 (y.toNat : Int)).toNat : Int) = _
  simp only [BitVec.ofInt_natCast, BitVec.ofNat_toNat, BitVec.setWidth_eq]
  exact IntWalk.u32_in _ (by have := (x ^^^ y).isLt; omega)

theorem CrcP.bxor_byte (x : BitVec 32) (c : UInt8) : bits .xor .u32 (x.toNat : Int) (c.toNat : Int) = ((x ^^^ CrcP.wide c).toNat : Int) := by
  rw [← CrcP.bxor]
  congr 1
  have := c.toNat_lt
  simp only [CrcP.wide, BitVec.toNat_ofNat]; omega

theorem CrcP.bxor_poly (x : BitVec 32) : bits .xor .u32 ((x >>> 1).toNat : Int) 3988292384 = ((x >>> 1 ^^^ CrcP.poly).toNat : Int) := by
  rw [← CrcP.bxor]; rfl

theorem CrcP.half (x : BitVec 32) : (x.toNat : Int) / (2 : Int) = ((x >>> 1).toNat : Int) := by
  simp [Nat.shiftRight_eq_div_pow]

theorem CrcP.odd_band (x : BitVec 32) : (bits .and .u32 (x.toNat : Int) 1 == 1) = decide (x.toNat % 2 = 1) := by
  have h : bits .and .u32 (x.toNat : Int) 1 = ((x.toNat % 2 : Nat) : Int) := by
    have := (bits_nat .u32 32 (by decide) (fun n h0 h1 => IntWalk.u32_in n (by omega)) x.toNat 1 x.isLt (by decide)).1
    rw [show (1 : Int) = ((1 : Nat) : Int) from rfl, this, Nat.and_one_is_mod]
  rw [h, Bool.eq_iff_iff]; simp; omega

theorem CrcP.bit1_odd (x : BitVec 32) (h : (bits .and .u32 (x.toNat : Int) 1 == 1) = true) :
    bits .xor .u32 ((x.toNat : Int) / (2 : Int)) 3988292384 = ((CrcP.bit1 x).toNat : Int) := by
  rw [CrcP.odd_band, decide_eq_true_iff] at h
  rw [CrcP.half, CrcP.bxor_poly, CrcP.bit1, if_pos h]

theorem CrcP.bit1_even (x : BitVec 32) (h : (bits .and .u32 (x.toNat : Int) 1 == 1) = false) :
    (x.toNat : Int) / (2 : Int) = ((CrcP.bit1 x).toNat : Int) := by
  rw [CrcP.odd_band, decide_eq_false_iff_not] at h
  rw [CrcP.half, CrcP.bit1, if_neg h]

theorem CrcP.bit1_odd' (x : BitVec 32) (h : (((x.toNat : Int) % 2) == 1) = true) :
    bits .xor .u32 ((x.toNat : Int) / (2 : Int)) 3988292384 = ((CrcP.bit1 x).toNat : Int) := by
  refine CrcP.bit1_odd x ?_
  rw [CrcP.odd_band, decide_eq_true_iff]; simp at h; omega

theorem CrcP.bit1_even' (x : BitVec 32) (h : (((x.toNat : Int) % 2) == 1) = false) :
    (x.toNat : Int) / (2 : Int) = ((CrcP.bit1 x).toNat : Int) := by
  refine CrcP.bit1_even x ?_
  rw [CrcP.odd_band, decide_eq_false_iff_not]; simp at h; omega

theorem CrcP.int_u32 {a b : Int} (h : a = b) : Value.int .u32 a = Value.int .u32 b := by rw [h]
theorem CrcP.ret_u32 {a b : Int} (h : a = b) : Ending.returned (.int .u32 a) = .returned (.int .u32 b) := by rw [h]

theorem CrcP.not32 (x : BitVec 32) : bits .xor .u32 IntKind.u32.max (x.toNat : Int) = ((CrcP.endB x).toNat : Int) := by
  have h : IntKind.u32.max = (CrcP.ones.toNat : Int) := by decide
  rw [h, CrcP.bxor, BitVec.xor_comm]; rfl

set_option maxHeartbeats 400000 in
theorem crcEnd_any (x : BitVec 32) (w : World) :
    Calls Tryd.prog 40 #[.int .u32 x.toNat] w fun e w' => e = .returned (.int .u32 (CrcP.endB x).toNat) ∧ w = w' := by
  go_enter Tryd.func40, Tryd.ntmps40
  go_wp2
  go_ret
  exact ⟨CrcP.ret_u32 (CrcP.not32 x), rfl⟩

set_option maxHeartbeats 400000 in
theorem crcStart_any (w : World) :
    Calls Tryd.prog 42 #[] w fun e w' => e = .returned (.int .u32 CrcP.ones.toNat) ∧ w = w' := by
  go_enter Tryd.func42, Tryd.ntmps42
  go_wp2
  go_ret
  exact ⟨rfl, rfl⟩

set_option maxHeartbeats 400000 in
theorem crcStep_any (c : UInt8) (s : BitVec 32) (p : Addr) (w : World) (hcell : w.cell? p = some (.int .u32 s.toNat)) (hf : w.frozen? p = false) :
    Calls Tryd.prog 59 #[.int .u8 c.toNat, .pointer (some p)] w fun e w' => e = .returned (.tuple #[]) ∧ w.setCell p (.int .u32 (CrcP.byteB s c).toNat) = w' := by
  have hc := c.toNat_lt
  have HX := Lib.hid (CrcP.bxor_byte s c)
  go_enter Tryd.func59, Tryd.ntmps59
  go_wp2
  go_loopw [8] (fun i wr => ∃ k : Nat, k ≤ 8 ∧ i = .int .i64 k ∧ wr = w.setCell p (.int .u32 (CrcP.bitN k (s ^^^ CrcP.wide c)).toNat)) (fun i _ => 8 - (intOf i).toNat)
  case atStart => exact ⟨0, by omega, rfl, by rw [HX.out]; rfl⟩
  case round =>
    obtain ⟨k, hk, rfl, rfl⟩ := hrel
    obtain ⟨x, hx⟩ : ∃ x, x = CrcP.bitN k (s ^^^ CrcP.wide c) := ⟨_, rfl⟩
    have HX2 := Lib.hid hx
    rw [← hx]
    clear hx
    go_wp2
    · have hodd : (bits .and .u32 (x.toNat : Int) 1 == 1) = true := by assumption
      go_roundw
      case rel => exact ⟨k + 1, by omega, by go_num, by rw [CrcP.bit1_odd x hodd, CrcP.bitN, ← HX2.out, setCell2, setCell2]⟩
      case measure => simp [intOf]; omega
    · have hodd : (bits .and .u32 (x.toNat : Int) 1 == 1) = false := by assumption
      go_roundw
      case rel => exact ⟨k + 1, by omega, by go_num, by rw [CrcP.bit1_even x hodd, CrcP.bitN, ← HX2.out, setCell2]⟩
      case measure => simp [intOf]; omega
    · obtain rfl : k = 8 := by omega
      go_end0
      exact ⟨rfl, by rw [HX2.out]; rfl⟩

theorem CrcP.add_take (x : BitVec 32) (l : List UInt8) (k : Nat) (h : k < l.length) : CrcP.add x (l.take (k + 1)) = CrcP.byteB (CrcP.add x (l.take k)) (l[k]) := by
  rw [List.take_succ_eq_append_getElem h, CrcP.add_append]; rfl

set_option maxHeartbeats 400000 in
theorem crcAdd_any (x : BitVec 32) (b : ByteArray) (w : World) (hs : b.size ≤ 9223372036854775807) :
    Calls Tryd.prog 41 #[.int .u32 x.toNat, .string b] w fun e w' => e = .returned (.int .u32 (CrcP.add x b.data.toList).toNat) ∧ Below w.heap.size w w' := by
  go_enter Tryd.func41, Tryd.ntmps41
  go_wp2
  go_loopw [10] (fun i wr => ∃ k : Nat, k ≤ b.size ∧ i = .int .i64 k ∧ wr = w.alloc (.cells #[.int .u32 (CrcP.add x (b.data.toList.take k)).toNat] 48)) (fun i _ => b.size - (intOf i).toNat)
  case atStart => exact ⟨0, by omega, rfl, rfl⟩
  case round =>
    obtain ⟨k, hk, rfl, rfl⟩ := hrel
    by_cases hlt : k < b.size
    · have HT := Lib.hid (CrcP.add_take x b.data.toList k (by simpa using hlt))
      go_wp2_with fail
      refine (crcStep_any _ (CrcP.add x (b.data.toList.take k)) _ _ (by rw [World.cell?_alloc_at _ _ _ _ rfl]; rfl) (World.frozen?_alloc_at _ _ _ _ rfl)).mono ?_
      rintro e w' ⟨rfl, rfl⟩
      go_wp2
      go_roundw
      case rel => exact ⟨k + 1, by omega, by go_num, by rw [HT.out]; rfl⟩
      case measure => simp [intOf]; omega
    · go_wp2
      go_ret
      exact ⟨by rw [List.take_of_length_le (by simp; omega)]; rfl, (Below.refl _ _).alloc (Nat.le_refl _) _⟩

set_option maxHeartbeats 400000 in
theorem crcRefAdd_any (x : BitVec 32) (b : ByteArray) (w : World) (hs : b.size ≤ 9223372036854775807) :
    Calls Tryd.prog 44 #[.int .u32 x.toNat, .string b] w fun e w' => e = .returned (.int .u32 (CrcP.add x b.data.toList).toNat) ∧ w = w' := by
  go_enter Tryd.func44, Tryd.ntmps44
  go_wp2
  go_loop [0, 5, 6, 7] (fun s i _ _ => ∃ k : Nat, k ≤ b.size ∧ i = .int .i64 k ∧ s = .int .u32 (CrcP.add x (b.data.toList.take k)).toNat) (fun _ i _ _ => b.size - (intOf i).toNat)
  case atStart => exact ⟨0, by omega, rfl, rfl⟩
  case round =>
    obtain ⟨k, hk, rfl, rfl⟩ := hrel
    by_cases hlt : k < b.size
    · have HT := Lib.hid (CrcP.add_take x b.data.toList k (by simpa using hlt))
      have hc := b[k].toNat_lt
      generalize hy : CrcP.add x (b.data.toList.take k) = y at HT ⊢
      clear hy
      have HX := Lib.hid (CrcP.bxor_byte y b[k])
      go_wp2
      go_loop [0, 6, 7] (fun s i _ => ∃ n : Nat, n ≤ 8 ∧ i = .int .i64 n ∧ s = .int .u32 (CrcP.bitN n (y ^^^ CrcP.wide b[k])).toNat) (fun _ i _ => 8 - (intOf i).toNat)
      case atStart => exact ⟨0, by omega, rfl, by rw [HX.out]; rfl⟩
      case round =>
        obtain ⟨n, hn, rfl, rfl⟩ := hrel
        generalize hz : CrcP.bitN n (y ^^^ CrcP.wide b[k]) = z
        have HZ := Lib.hid hz
        clear hz
        go_wp2
        · have hodd : ((z.toNat : Int) % 2 == 1) = true := by assumption
          go_round
          case rel => exact ⟨n + 1, by omega, by go_num, by rw [CrcP.bit1_odd' z hodd, CrcP.bitN, HZ.out]⟩
          case measure => simp [intOf]; omega
        · have hodd : ((z.toNat : Int) % 2 == 1) = false := by assumption
          go_round
          case rel => exact ⟨n + 1, by omega, by go_num, by rw [CrcP.bit1_even' z hodd, CrcP.bitN, HZ.out]⟩
          case measure => simp [intOf]; omega
        · obtain rfl : n = 8 := by omega
          go_round
          case rel => exact ⟨k + 1, by omega, by go_num, by rw [HT.out, ← HZ.out]; rfl⟩
          case measure => simp [intOf]; omega
    · go_wp2
      go_ret
      exact ⟨by rw [List.take_of_length_le (by simp; omega)]; rfl, rfl⟩

set_option maxHeartbeats 400000 in
theorem crcOf_any (b : ByteArray) (w : World) (hs : b.size ≤ 9223372036854775807) :
    Calls Tryd.prog 21 #[.string b] w fun e w' => e = .returned (.int .u32 (CrcP.ofL b.data.toList).toNat) ∧ Below w.heap.size w w' := by
  go_enter Tryd.func21, Tryd.ntmps21
  go_wp2_with fail
  refine (crcStart_any _).mono ?_
  rintro e w' ⟨rfl, rfl⟩
  go_wp2_with fail
  refine (crcAdd_any _ _ _ hs).mono ?_
  rintro e w' ⟨rfl, hb⟩
  go_wp2_with fail
  refine (crcEnd_any _ _).mono ?_
  rintro e w1 ⟨rfl, rfl⟩
  go_wp2
  go_ret
  exact ⟨rfl, hb⟩

set_option maxHeartbeats 400000 in
theorem crcRefOf_any (b : ByteArray) (w : World) (hs : b.size ≤ 9223372036854775807) :
    Calls Tryd.prog 27 #[.string b] w fun e w' => e = .returned (.int .u32 (CrcP.ofL b.data.toList).toNat) ∧ w = w' := by
  go_enter Tryd.func27, Tryd.ntmps27
  go_wp2_with fail
  refine (crcRefAdd_any CrcP.ones _ _ hs).mono ?_
  rintro e w1 ⟨rfl, rfl⟩
  have HX := Lib.hid (CrcP.bxor (CrcP.add CrcP.ones b.data.toList) CrcP.ones)
  go_wp2
  go_ret
  exact ⟨CrcP.ret_u32 HX.out, rfl⟩

end Go.Proofs.YtkjmhnbijbpmkaaDoor
