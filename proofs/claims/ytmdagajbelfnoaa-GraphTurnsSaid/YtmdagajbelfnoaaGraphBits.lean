/-
  Sets of partitions as words of 64 bits: what the walk shows, as Nat.
-/
import Derived.Test.YtmdagajbelfnoaaGraphPlain
import Derived.Laws.BitsLemmas
import Derived.Handy
namespace Go.Proofs.Ytmdagajbelfnoaa
open Go.RowKit

namespace GraP
theorem bits64 (a b : Nat) (ha : a < 18446744073709551616) (hb : b < 18446744073709551616) : bits .and .u64 (a : Int) (b : Int) = ((a &&& b : Nat) : Int) ∧ bits .or .u64 (a : Int) (b : Int) = ((a ||| b : Nat) : Int) :=
  bits_nat .u64 64 (by decide) (fun n h0 h1 => IntWalk.u64_in n (by omega)) a b (by omega) (by omega)
theorem test_bit (s x : Nat) (hs : s < 18446744073709551616) : (bits .and .u64 ((s : Int) / 2 ^ x) 1 == 1) = s.testBit x := by
  have h0 : ((s : Int) / 2 ^ x) = ((s / 2 ^ x : Nat) : Int) := by simp
  have hlt : s / 2 ^ x < 18446744073709551616 := Nat.lt_of_le_of_lt (Nat.div_le_self _ _) hs
  have h1 : bits .and .u64 ((s / 2 ^ x : Nat) : Int) 1 = ((s / 2 ^ x % 2 : Nat) : Int) := by
    rw [show (1 : Int) = ((1 : Nat) : Int) from rfl, (bits64 _ 1 hlt (by decide)).1, Nat.and_one_is_mod]
  rw [h0, h1, Nat.testBit_eq_decide_div_mod_eq, Bool.eq_iff_iff]
  simp
  omega
theorem pow_lt {y : Nat} (h : y < 64) : 2 ^ y < 18446744073709551616 := Nat.lt_of_lt_of_le (Nat.pow_lt_pow_right (by decide) h) (by decide)
theorem set_bit (m y : Nat) (hm : m < 18446744073709551616) (hy : y < 64) : bits .or .u64 (m : Int) (IntKind.u64.wrap (2 ^ y)) = ((m ||| 2 ^ y : Nat) : Int) := by
  have h := pow_lt hy
  have hw : IntKind.u64.wrap (2 ^ y) = ((2 ^ y : Nat) : Int) := by
    rw [show ((2 : Int) ^ y) = ((2 ^ y : Nat) : Int) by simp]
    generalize 2 ^ y = z at h
    exact IntWalk.u64_in _ (by omega)
  rw [hw]
  exact (bits64 m (2 ^ y) hm h).2
theorem set_lt (m y : Nat) (hm : m < 18446744073709551616) (hy : y < 64) : m ||| 2 ^ y < 18446744073709551616 := Nat.or_lt_two_pow (n := 64) hm (pow_lt hy)
end GraP

end Go.Proofs.Ytmdagajbelfnoaa
