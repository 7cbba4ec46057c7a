/-
  Layer 2, plain: the sum of bytes, on words of 32 bits.
-/
import Derived.WalkKit
namespace Go.Proofs.YtkakcpghgipdeaaDoor
open Go.RowKit

namespace DigP
abbrev Wd := BitVec 32
def turn (x : Wd) (n : Nat) : Wd := (x >>> n) ||| (x <<< (32 - n))
def turns (x : Wd) (l : List Nat) : Wd := l.foldl (fun o n => o ^^^ turn x n) 0
def consts : List Wd := [0x428a2f98#32, 0x71374491#32, 0xb5c0fbcf#32, 0xe9b5dba5#32, 0x3956c25b#32, 0x59f111f1#32, 0x923f82a4#32, 0xab1c5ed5#32, 0xd807aa98#32, 0x12835b01#32, 0x243185be#32, 0x550c7dc3#32, 0x72be5d74#32, 0x80deb1fe#32, 0x9bdc06a7#32, 0xc19bf174#32, 0xe49b69c1#32, 0xefbe4786#32, 0x0fc19dc6#32, 0x240ca1cc#32, 0x2de92c6f#32, 0x4a7484aa#32, 0x5cb0a9dc#32, 0x76f988da#32, 0x983e5152#32, 0xa831c66d#32, 0xb00327c8#32, 0xbf597fc7#32, 0xc6e00bf3#32, 0xd5a79147#32, 0x06ca6351#32, 0x14292967#32, 0x27b70a85#32, 0x2e1b2138#32, 0x4d2c6dfc#32, 0x53380d13#32, 0x650a7354#32, 0x766a0abb#32, 0x81c2c92e#32, 0x92722c85#32, 0xa2bfe8a1#32, 0xa81a664b#32, 0xc24b8b70#32, 0xc76c51a3#32, 0xd192e819#32, 0xd6990624#32, 0xf40e3585#32, 0x106aa070#32, 0x19a4c116#32, 0x1e376c08#32, 0x2748774c#32, 0x34b0bcb5#32, 0x391c0cb3#32, 0x4ed8aa4a#32, 0x5b9cca4f#32, 0x682e6ff3#32, 0x748f82ee#32, 0x78a5636f#32, 0x84c87814#32, 0x8cc70208#32, 0x90befffa#32, 0xa4506ceb#32, 0xbef9a3f7#32, 0xc67178f2#32]
def word (a b c d : UInt8) : Wd := BitVec.ofNat 32 (a.toNat * 16777216 + b.toNat * 65536 + c.toNat * 256 + d.toNat)
def first (b : List UInt8) : List Wd := (List.range 16).map fun t => word (b.getD (4 * t) 0) (b.getD (4 * t + 1) 0) (b.getD (4 * t + 2) 0) (b.getD (4 * t + 3) 0)
def small0 (x : Wd) : Wd := turn x 7 ^^^ turn x 18 ^^^ (x >>> 3)
def small1 (x : Wd) : Wd := turn x 17 ^^^ turn x 19 ^^^ (x >>> 10)
def next (w : List Wd) (t : Nat) : Wd := w.getD (t - 16) 0 + small0 (w.getD (t - 15) 0) + w.getD (t - 7) 0 + small1 (w.getD (t - 2) 0)
def wordsN (b : List UInt8) : Nat → List Wd
  | 0 => first b
  | k + 1 => wordsN b k ++ [next (wordsN b k) (16 + k)]
def words (b : List UInt8) : List Wd := wordsN b 48
abbrev V8 := Wd × Wd × Wd × Wd × Wd × Wd × Wd × Wd
def round (k w : Wd) : V8 → V8
  | (a, b, c, d, e, f, g, h) =>
    let one := h + (turn e 6 ^^^ turn e 11 ^^^ turn e 25) + ((e &&& f) ^^^ (~~~e &&& g)) + k + w
    let two := (turn a 2 ^^^ turn a 13 ^^^ turn a 22) + ((a &&& b) ^^^ (a &&& c) ^^^ (b &&& c))
    (one + two, a, b, c, d + one, e, f, g)
def rounds (w : List Wd) (v : V8) : Nat → V8
  | 0 => v
  | t + 1 => round (consts.getD t 0) (w.getD t 0) (rounds w v t)
def plus : V8 → V8 → V8
  | (a, b, c, d, e, f, g, h), (a', b', c', d', e', f', g', h') => (a + a', b + b', c + c', d + d', e + e', f + f', g + g', h + h')
def block (v : V8) (b : List UInt8) : V8 := plus v (rounds (words b) v 64)
/-- A state: the eight words, how many bytes, the bytes left. -/
abbrev St := V8 × Nat × List UInt8
def start : V8 := (0x6a09e667#32, 0xbb67ae85#32, 0x3c6ef372#32, 0xa54ff53a#32, 0x510e527f#32, 0x9b05688c#32, 0x1f83d9ab#32, 0x5be0cd19#32)
def eat : Nat → V8 → List UInt8 → V8 × List UInt8
  | 0, v, l => (v, l)
  | k + 1, v, l => if 64 ≤ l.length then eat k (block v (l.take 64)) (l.drop 64) else (v, l)
def add (s : St) (b : List UInt8) : St :=
  let r := eat (s.2.2.length + b.length) s.1 (s.2.2 ++ b)
  (r.1, (s.2.1 + b.length) % 18446744073709551616, r.2)
def tail0 (r : Nat) : Nat := (119 - r % 64) % 64
def tail (s : St) : List UInt8 := 128 :: (List.replicate (tail0 s.2.2.length) 0 ++ (List.range 8).map fun i => UInt8.ofNat (s.2.1 * 8 % 18446744073709551616 / 2 ^ (56 - 8 * i)))
def nthW : V8 → Nat → Wd
  | (a, b, c, d, e, f, g, h), i => [a, b, c, d, e, f, g, h].getD i 0
def bytesOf (v : V8) : List UInt8 := (List.range 32).map fun i => UInt8.ofNat ((nthW v (i / 4)).toNat / 2 ^ (24 - 8 * (i % 4)))
def fin (s : St) : List UInt8 := bytesOf (add s (tail s)).1
def of (b : List UInt8) : List UInt8 := fin (add (start, 0, []) b)
def sign (n : Nat) : UInt8 := if n < 10 then UInt8.ofNat (48 + n) else UInt8.ofNat (87 + n)
def hex (l : List UInt8) : List UInt8 := l.flatMap fun c => [sign (c.toNat / 16), sign (c.toNat % 16)]

theorem ex1 : hex (of [97, 98, 99]) = [98, 97, 55, 56, 49, 54, 98, 102, 56, 102, 48, 49, 99, 102, 101, 97, 52, 49, 52, 49, 52, 48, 100, 101, 53, 100, 97, 101, 50, 50, 50, 51, 98, 48, 48, 51, 54, 49, 97, 51, 57, 54, 49, 55, 55, 97, 57, 99, 98, 52, 49, 48, 102, 102, 54, 49, 102, 50, 48, 48, 49, 53, 97, 100] := by decide +kernel
theorem ex2 : hex (of []) = [101, 51, 98, 48, 99, 52, 52, 50, 57, 56, 102, 99, 49, 99, 49, 52, 57, 97, 102, 98, 102, 52, 99, 56, 57, 57, 54, 102, 98, 57, 50, 52, 50, 55, 97, 101, 52, 49, 101, 52, 54, 52, 57, 98, 57, 51, 52, 99, 97, 52, 57, 53, 57, 57, 49, 98, 55, 56, 53, 50, 98, 56, 53, 53] := by decide +kernel

/-! ### The model's operations -/
theorem in32 (x : Wd) : IntKind.u32.wrap (x.toNat : Int) = (x.toNat : Int) := IntWalk.u32_in _ (by have := x.isLt; omega)
theorem badd (x y : Wd) : IntKind.u32.wrap ((x.toNat : Int) + (y.toNat : Int)) = ((x + y).toNat : Int) := by
  rw [BitVec.toNat_add]; simp [IntKind.wrap, IntKind.bits, IntKind.signed]
theorem bxor (x y : Wd) : bits .xor .u32 (x.toNat : Int) (y.toNat : Int) = ((x ^^^ y).toNat : Int) := by
  show IntKind.u32.wrap ((BitVec.ofInt 32 (x.toNat : Int) ^^^ BitVec.ofInt 32 (y.toNat : Int)).toNat : Int) = _
  simp only [BitVec.ofInt_natCast, BitVec.ofNat_toNat, BitVec.setWidth_eq]
  exact in32 _
theorem band (x y : Wd) : bits .and .u32 (x.toNat : Int) (y.toNat : Int) = ((x &&& y).toNat : Int) := by
  show IntKind.u32.wrap ((BitVec.ofInt 32 (x.toNat : Int) &&& BitVec.ofInt 32 (y.toNat : Int)).toNat : Int) = _
  simp only [BitVec.ofInt_natCast, BitVec.ofNat_toNat, BitVec.setWidth_eq]
  exact in32 _
theorem bor (x y : Wd) : bits .or .u32 (x.toNat : Int) (y.toNat : Int) = ((x ||| y).toNat : Int) := by
  show IntKind.u32.wrap ((BitVec.ofInt 32 (x.toNat : Int) ||| BitVec.ofInt 32 (y.toNat : Int)).toNat : Int) = _
  simp only [BitVec.ofInt_natCast, BitVec.ofNat_toNat, BitVec.setWidth_eq]
  exact in32 _
theorem bnot (x : Wd) : bits .xor .u32 IntKind.u32.max (x.toNat : Int) = ((~~~x).toNat : Int) := by
  have h : IntKind.u32.max = ((BitVec.allOnes 32).toNat : Int) := by decide
  rw [h, bxor, BitVec.xor_comm, BitVec.xor_allOnes]
theorem bneg (x : Wd) : 4294967295 - (x.toNat : Int) = ((~~~x).toNat : Int) := by
  rw [BitVec.toNat_not]; have := x.isLt; omega
theorem bshr (x : Wd) (n : Nat) : (x.toNat : Int) / ((2 ^ n : Nat) : Int) = ((x >>> n).toNat : Int) := by
  rw [BitVec.toNat_ushiftRight, Nat.shiftRight_eq_div_pow]; simp
theorem bshl (x : Wd) (n : Nat) : IntKind.u32.wrap ((x.toNat : Int) * ((2 ^ n : Nat) : Int)) = ((x <<< n).toNat : Int) := by
  rw [BitVec.toNat_shiftLeft, Nat.shiftLeft_eq]; simp [IntKind.wrap, IntKind.bits, IntKind.signed]
theorem bshl' (x : Wd) (n : Nat) : (x.toNat : Int) * 2 ^ n % 4294967296 = ((x <<< n).toNat : Int) := by
  rw [← bshl]; simp [IntKind.wrap, IntKind.bits, IntKind.signed]
theorem bshr' (x : Wd) (n : Nat) : (x.toNat : Int) / 2 ^ n = ((x >>> n).toNat : Int) := by
  rw [← bshr]; simp
theorem bshr8 (x : Wd) : (x.toNat : Int) / (8 : Int) = ((x >>> 3).toNat : Int) := by rw [show (8 : Int) = 2 ^ 3 from rfl, bshr']
theorem bshr1024 (x : Wd) : (x.toNat : Int) / (1024 : Int) = ((x >>> 10).toNat : Int) := by rw [show (1024 : Int) = 2 ^ 10 from rfl, bshr']
theorem badd' (x y : Wd) : ((x.toNat : Int) + (y.toNat : Int)) % 4294967296 = ((x + y).toNat : Int) := by
  rw [BitVec.toNat_add]; simp
end DigP

end Go.Proofs.YtkakcpghgipdeaaDoor
