
/-
  Layer 2, plain: the sum of bytes, on words of 32 bits.
-/
import Derived.WalkKit
namespace Go.Proofs.YtfcffglgkblidaaDoor
open Go.RowKit

namespace DigP
abbrev Wd := BitVec 32
def turn (x : Wd) (n : Nat) : Wd := (x >>> n) ||| (x <<< (32 - n))
def turns (x : Wd) (l : List Nat) : Wd := l.foldl (fun o n => o ^^^ turn x n) 0
def consts : List Wd := [0x428a2f98#32, 0x71374491#32, 0xb5c0fbcf#32, 0xe9b5dba5#32, 0x3956c25b#32, 0x59f111f1#32, 0x923f82a4#32, 0xab1c5ed5#32, 0xd807aa98#32, 0x12835b01#32, 0x243185be#32, 0x550c7dc3#32, 0x72be5d74#32, 0x80deb1fe#32, 0x9bdc06a7#32, 0xc19bf174#32, 0xe49b69c1#32, 0xefbe4786#32, 0x0fc19dc6#32, 0x240ca1cc#32, 0x2de92c6f#32, 0x4a7484aa#32, 0x5cb0a9dc#32, 0x76f988da#32, 0x983e5152#32, 0xa831c66d#32, 0xb00327c8#32, 0xbf597fc7#32, 0xc6e00bf3#32, 0xd5a79147#32, 0x06ca6351#32, 0x14292967#32, 0x27b70a85#32, 0x2e1b2138#32, 0x4d2c6dfc#32, 0x53380d13#32, 0x650a7354#32, 0x766a0abb#32, 0x81c2c92e#32, 0x92722c85#32, 0xa2bfe8a1#32, 0xa81a664b#32, 0xc24b8b70#32, 0xc76c51a3#32, 0xd192e819#32, 0xd6990624#32, 0xf40e3585#32, 0x106aa070#32, 0x19a4c116#32, 0x1e376c08#32, 0x2748774c#32, 0x34b0bcb5#32, 0x391c0cb3#32, 0x4ed8aa4a#32, 0x5b9cca4f#32, 0x682e6ff3#32, 0x748f82ee#32, 0x78a5636f#32, 0x84c87814#32, 0x8cc70208#32, 0x90befffa#32, 0xa4506ceb#32, 0xbef9a3f7#32, 0xc67178f2#32]
def word (a b c d : UInt8) : Wd := BitVec.ofNat 32 (a.toNat * 16777216 + b.toNat * 65536 + c.toNat * 256 + d.toNat)
def first (b : List UInt8) : List Wd := (List.range 16).map fun t => word (b.getD (4 * t) 0) (b.getD (4 * t + 1) 0) (b.getD (4 * t + 2) 0) (b.getD (4 * t + 3) 0)
def small0 (x : Wd) : Wd := turn x 7 ^^^ turn x 18 ^^^ (x >>> 3)
def small1 (x : Wd) : Wd := turn x 17 ^^^ turn x 19 ^^^ (x >>> 10)
def next (w : List Wd) (t : Nat) : Wd := w.getD (t - 16) 0 + small0 (w.getD (t - 15) 0) + w.getD (t - 7) 0 + small1 (w.getD (t - 2) 0)
def wordsN (b : List UInt8) : Nat → List Wd
  | 0 => first b
  | k + 1 => wordsN b k ++ [next (wordsN b k) (16 + k)]
def words (b : List UInt8) : List Wd := wordsN b 48
abbrev V8 := Wd × Wd × Wd × Wd × Wd × Wd × Wd × Wd
def round (k w : Wd) : V8 → V8
  | (a, b, c, d, e, f, g, h) =>
    let one := h + (turn e 6 ^^^ turn e 11 ^^^ turn e 25) + ((e &&& f) ^^^ (~~~e &&& g)) + k + w
    let two := (turn a 2 ^^^ turn a 13 ^^^ turn a 22) + ((a &&& b) ^^^ (a &&& c) ^^^ (b &&& c))
    (one + two, a, b, c, d + one, e, f, g)
def rounds (w : List Wd) (v : V8) : Nat → V8
  | 0 => v
  | t + 1 => round (consts.getD t 0) (w.getD t 0) (rounds w v t)
def plus : V8 → V8 → V8
  | (a, b, c, d, e, f, g, h), (a', b', c', d', e', f', g', h') => (a + a', b + b', c + c', d + d', e + e', f + f', g + g', h + h')
def block (v : V8) (b : List UInt8) : V8 := plus v (rounds (words b) v 64)
/-- A state: the eight words, how many bytes, the bytes left. -/
abbrev St := V8 × Nat × List UInt8
def start : V8 := (0x6a09e667#32, 0xbb67ae85#32, 0x3c6ef372#32, 0xa54ff53a#32, 0x510e527f#32, 0x9b05688c#32, 0x1f83d9ab#32, 0x5be0cd19#32)
def eat : Nat → V8 → List UInt8 → V8 × List UInt8
  | 0, v, l => (v, l)
  | k + 1, v, l => if 64 ≤ l.length then eat k (block v (l.take 64)) (l.drop 64) else (v, l)
def add (s : St) (b : List UInt8) : St :=
  let r := eat (s.2.2.length + b.length) s.1 (s.2.2 ++ b)
  (r.1, (s.2.1 + b.length) % 18446744073709551616, r.2)
def tail0 (r : Nat) : Nat := (119 - r % 64) % 64
def tail (s : St) : List UInt8 := 128 :: (List.replicate (tail0 s.2.2.length) 0 ++ (List.range 8).map fun i => UInt8.ofNat (s.2.1 * 8 % 18446744073709551616 / 2 ^ (56 - 8 * i)))
def nthW : V8 → Nat → Wd
  | (a, b, c, d, e, f, g, h), i => [a, b, c, d, e, f, g, h].getD i 0
def bytesOf (v : V8) : List UInt8 := (List.range 32).map fun i => UInt8.ofNat ((nthW v (i / 4)).toNat / 2 ^ (24 - 8 * (i % 4)))
def fin (s : St) : List UInt8 := bytesOf (add s (tail s)).1
def of (b : List UInt8) : List UInt8 := fin (add (start, 0, []) b)
def sign (n : Nat) : UInt8 := if n < 10 then UInt8.ofNat (48 + n) else UInt8.ofNat (87 + n)
def hex (l : List UInt8) : List UInt8 := l.flatMap fun c => [sign (c.toNat / 16), sign (c.toNat % 16)]

theorem ex1 : hex (of [97, 98, 99]) = [98, 97, 55, 56, 49, 54, 98, 102, 56, 102, 48, 49, 99, 102, 101, 97, 52, 49, 52, 49, 52, 48, 100, 101, 53, 100, 97, 101, 50, 50, 50, 51, 98, 48, 48, 51, 54, 49, 97, 51, 57, 54, 49, 55, 55, 97, 57, 99, 98, 52, 49, 48, 102, 102, 54, 49, 102, 50, 48, 48, 49, 53, 97, 100] := by decide +kernel
theorem ex2 : hex (of []) = [101, 51, 98, 48, 99, 52, 52, 50, 57, 56, 102, 99, 49, 99, 49, 52, 57, 97, 102, 98, 102, 52, 99, 56, 57, 57, 54, 102, 98, 57, 50, 52, 50, 55, 97, 101, 52, 49, 101, 52, 54, 52, 57, 98, 57, 51, 52, 99, 97, 52, 57, 53, 57, 57, 49, 98, 55, 56, 53, 50, 98, 56, 53, 53] := by decide +kernel

/-! ### The model's operations -/
theorem in32 (x : Wd) : IntKind.u32.wrap (x.toNat : Int) = (x.toNat : Int) := IntWalk.u32_in _ (by have := x.isLt; omega)
theorem badd (x y : Wd) : IntKind.u32.wrap ((x.toNat : Int) + (y.toNat : Int)) = ((x + y).toNat : Int) := by
  rw [BitVec.toNat_add]; simp [IntKind.wrap, IntKind.bits, IntKind.signed]
theorem bxor (x y : Wd) : bits .xor .u32 (x.toNat : Int) (y.toNat : Int) = ((x ^^^ y).toNat : Int) := by
  show IntKind.u32.wrap ((BitVec.ofInt 32 (x.toNat : Int) ^^^ BitVec.ofInt 32 (y.toNat : Int)).toNat : Int) = _
  simp only [BitVec.ofInt_natCast, BitVec.ofNat_toNat, BitVec.setWidth_eq]
  exact in32 _
theorem band (x y : Wd) : bits .and .u32 (x.toNat : Int) (y.toNat : Int) = ((x &&& y).toNat : Int) := by
  show IntKind.u32.wrap ((BitVec.ofInt 32 (x.toNat : Int) &&& BitVec.ofInt 32 (y.toNat : Int)).toNat : Int) = _
  simp only [BitVec.ofInt_natCast, BitVec.ofNat_toNat, BitVec.setWidth_eq]
  exact in32 _
theorem bor (x y : Wd) : bits .or .u32 (x.toNat : Int) (y.toNat : Int) = ((x ||| y).toNat : Int) := by
  show IntKind.u32.wrap ((BitVec.ofInt 32 (x.toNat : Int) ||| BitVec.ofInt 32 (y.toNat : Int)).toNat : Int) = _
  simp only [BitVec.ofInt_natCast, BitVec.ofNat_toNat, BitVec.setWidth_eq]
  exact in32 _
theorem bnot (x : Wd) : bits .xor .u32 IntKind.u32.max (x.toNat : Int) = ((~~~x).toNat : Int) := by
  have h : IntKind.u32.max = ((BitVec.allOnes 32).toNat : Int) := by decide
  rw [h, bxor, BitVec.xor_comm, BitVec.xor_allOnes]
theorem bneg (x : Wd) : 4294967295 - (x.toNat : Int) = ((~~~x).toNat : Int) := by
  rw [BitVec.toNat_not]; have := x.isLt; omega
theorem bshr (x : Wd) (n : Nat) : (x.toNat : Int) / ((2 ^ n : Nat) : Int) = ((x >>> n).toNat : Int) := by
  rw [BitVec.toNat_ushiftRight, Nat.shiftRight_eq_div_pow]; simp
theorem bshl (x : Wd) (n : Nat) : IntKind.u32.wrap ((x.toNat : Int) * ((2 ^ n : Nat) : Int)) = ((x <<< n).toNat : Int) := by
  rw [BitVec.toNat_shiftLeft, Nat.shiftLeft_eq]; simp [IntKind.wrap, IntKind.bits, IntKind.signed]
theorem bshl' (x : Wd) (n : Nat) : (x.toNat : Int) * 2 ^ n % 4294967296 = ((x <<< n).toNat : Int) := by
  rw [← bshl]; simp [IntKind.wrap, IntKind.bits, IntKind.signed]
theorem bshr' (x : Wd) (n : Nat) : (x.toNat : Int) / 2 ^ n = ((x >>> n).toNat : Int) := by
  rw [← bshr]; simp
theorem bshr8 (x : Wd) : (x.toNat : Int) / (8 : Int) = ((x >>> 3).toNat : Int) := by rw [show (8 : Int) = 2 ^ 3 from rfl, bshr']
theorem bshr1024 (x : Wd) : (x.toNat : Int) / (1024 : Int) = ((x >>> 10).toNat : Int) := by rw [show (1024 : Int) = 2 ^ 10 from rfl, bshr']
theorem badd' (x y : Wd) : ((x.toNat : Int) + (y.toNat : Int)) % 4294967296 = ((x + y).toNat : Int) := by
  rw [BitVec.toNat_add]; simp
end DigP

end Go.Proofs.YtfcffglgkblidaaDoor

/-
  Layer 2, plain: what is added in two pieces; a sum's signs, read and told.
-/
namespace Go.Proofs.YtfcffglgkblidaaDoor
open Go.RowKit

namespace DigP
theorem eat_short (k : Nat) (v : V8) (l : List UInt8) (h : l.length < 64) : eat k v l = (v, l) := by
  cases k with
  | zero => rfl
  | succ k => rw [eat, if_neg (by omega)]
theorem eat_fuel : ∀ (k k' : Nat) (v : V8) (l : List UInt8), l.length ≤ k * 64 + 63 → l.length ≤ k' * 64 + 63 → eat k v l = eat k' v l
  | 0, k', v, l, h, _ => by rw [eat_short k' v l (by omega)]; rfl
  | k + 1, 0, v, l, _, h => by rw [eat_short (k + 1) v l (by omega)]; rfl
  | k + 1, k' + 1, v, l, h, h' => by
    rw [eat, eat]
    by_cases q : 64 ≤ l.length
    · rw [if_pos q, if_pos q]
      exact eat_fuel k k' _ _ (by rw [List.length_drop]; omega) (by rw [List.length_drop]; omega)
    · rw [if_neg q, if_neg q]
theorem eat_left : ∀ (k : Nat) (v : V8) (l : List UInt8), l.length ≤ k * 64 + 63 → (eat k v l).2.length < 64
  | 0, v, l, h => by show l.length < 64; omega
  | k + 1, v, l, h => by
    rw [eat]
    by_cases q : 64 ≤ l.length
    · rw [if_pos q]; exact eat_left k _ _ (by rw [List.length_drop]; omega)
    · rw [if_neg q]; show l.length < 64; omega
theorem eat_len : ∀ (k : Nat) (v : V8) (l : List UInt8), (eat k v l).2.length ≤ l.length
  | 0, v, l => Nat.le_refl _
  | k + 1, v, l => by
    rw [eat]
    by_cases q : 64 ≤ l.length
    · rw [if_pos q]; have := eat_len k (block v (l.take 64)) (l.drop 64); rw [List.length_drop] at this; omega
    · rw [if_neg q]; exact Nat.le_refl _
theorem eat_two : ∀ (k m n : Nat) (v : V8) (l b : List UInt8), l.length ≤ k * 64 + 63 → (l ++ b).length ≤ m * 64 + 63 → (l ++ b).length ≤ n * 64 + 63 → eat m v (l ++ b) = eat n (eat k v l).1 ((eat k v l).2 ++ b)
  | 0, m, n, v, l, b, h, h', h'' => eat_fuel m n v _ h' h''
  | k + 1, m, n, v, l, b, h, h', h'' => by
    by_cases q : 64 ≤ l.length
    · rw [List.length_append] at h' h''
      cases m with
      | zero => omega
      | succ m =>
        rw [eat, if_pos (by rw [List.length_append]; omega), eat, if_pos q, List.take_append_of_le_length q, List.drop_append_of_le_length q]
        refine eat_two k m n _ _ _ (by rw [List.length_drop]; omega) (by rw [List.length_append, List.length_drop]; omega) (by rw [List.length_append, List.length_drop]; omega)
    · rw [eat_short (k + 1) v l (by omega)]
      exact eat_fuel m n v _ h' h''
theorem add_two (s : St) (a b : List UInt8) : add (add s a) b = add s (a ++ b) := by
  obtain ⟨v, n, r⟩ := s
  unfold add
  simp only [← List.append_assoc]
  have key := eat_two (r.length + a.length) (r.length + (a ++ b).length) ((eat (r.length + a.length) v (r ++ a)).2.length + b.length) v (r ++ a) b (by rw [List.length_append]; omega) (by simp only [List.length_append]; omega)
  by_cases q : (r ++ a ++ b).length ≤ ((eat (r.length + a.length) v (r ++ a)).2.length + b.length) * 64 + 63
  · have k := key q
    rw [k]
    refine Prod.ext rfl (Prod.ext ?_ rfl)
    show ((n + a.length) % 18446744073709551616 + b.length) % 18446744073709551616 = (n + (a ++ b).length) % 18446744073709551616
    rw [List.length_append]; omega
  · have k := eat_two (r.length + a.length) (r.length + (a ++ b).length) (r.length + (a ++ b).length) v (r ++ a) b (by rw [List.length_append]; omega) (by simp only [List.length_append]; omega) (by simp only [List.length_append]; omega)
    have hl := eat_len (r.length + a.length) v (r ++ a)
    rw [List.length_append] at hl
    have e := eat_fuel (r.length + (a ++ b).length) ((eat (r.length + a.length) v (r ++ a)).2.length + b.length) (eat (r.length + a.length) v (r ++ a)).1 ((eat (r.length + a.length) v (r ++ a)).2 ++ b) (by simp only [List.length_append]; omega) (by simp only [List.length_append]; omega)
    rw [k, e]
    refine Prod.ext rfl (Prod.ext ?_ rfl)
    show ((n + a.length) % 18446744073709551616 + b.length) % 18446744073709551616 = (n + (a ++ b).length) % 18446744073709551616
    rw [List.length_append]; omega
theorem of_two (a b : List UInt8) : fin (add (add (start, 0, []) a) b) = of (a ++ b) := by rw [add_two]; rfl

/-! ### Signs -/
/-- A sign's number; 16: it is none. -/
def val (c : UInt8) : Nat := if 48 ≤ c.toNat ∧ c.toNat ≤ 57 then c.toNat - 48 else if 97 ≤ c.toNat ∧ c.toNat ≤ 102 then c.toNat - 87 else 16
theorem val_le (c : UInt8) : val c ≤ 16 := by unfold val; split; omega; split <;> omega
def good (s : List UInt8) : Bool := s.all fun c => decide (val c < 16)
/-- What has been read of k signs: 32 bytes. -/
def part (s : List UInt8) (k : Nat) : List UInt8 := (List.range 32).map fun j => UInt8.ofNat (if 2 * j + 1 < k then 16 * val (s.getD (2 * j) 0) + val (s.getD (2 * j + 1) 0) else if 2 * j < k then val (s.getD (2 * j) 0) else 0)
def read (s : List UInt8) : Option (List UInt8) := if s.length = 64 ∧ good s = true then some (part s 64) else none
theorem part_length (s : List UInt8) (k : Nat) : (part s k).length = 32 := by simp [part]
theorem part_zero (s : List UInt8) : part s 0 = List.replicate 32 0 := by
  have : part s 0 = (List.range 32).map (fun _ => (0 : UInt8)) := List.map_congr_left (fun j _ => by rw [if_neg (by omega), if_neg (by omega)]; rfl)
  rw [this]; rfl
theorem toNat_of {x : Nat} (h : x < 256) : (UInt8.ofNat x).toNat = x := by simp; omega
theorem part_get (s : List UInt8) (k j : Nat) (h : j < 32) : (part s k).getD j 0 = UInt8.ofNat (if 2 * j + 1 < k then 16 * val (s.getD (2 * j) 0) + val (s.getD (2 * j + 1) 0) else if 2 * j < k then val (s.getD (2 * j) 0) else 0) := by
  rw [List.getD_eq_getElem?_getD, List.getElem?_eq_getElem (by rw [part_length]; exact h)]; simp [part]
theorem part_next (s : List UInt8) (k : Nat) (h : k < 64) (_hv : val (s.getD k 0) < 16) (hp : ∀ i, i < k → val (s.getD i 0) < 16) :
    part s (k + 1) = (part s k).set (k / 2) (UInt8.ofNat (((part s k).getD (k / 2) 0).toNat * 16 % 256 + val (s.getD k 0))) := by
  apply List.ext_getElem?
  intro j
  rw [List.getElem?_set]
  by_cases hj : j < 32
  · rw [List.getElem?_eq_getElem (by rw [part_length]; exact hj)]
    by_cases e : k / 2 = j
    · subst e
      rw [if_pos rfl, if_pos (by rw [part_length]; exact hj), part_get s k _ hj]
      simp only [part, List.getElem_map, List.getElem_range, Option.some.injEq]
      rcases Nat.mod_two_eq_zero_or_one k with q | q
      · have e1 : 2 * (k / 2) = k := by omega
        rw [if_neg (by omega), if_pos (by omega), if_neg (by omega), if_neg (by omega), e1, toNat_of (by omega)]
        congr 1
        omega
      · have e1 : 2 * (k / 2) + 1 = k := by omega
        have e2 : 2 * (k / 2) = k - 1 := by omega
        rw [if_pos (by omega), if_neg (by omega), if_pos (by omega), e1, e2]
        have := hp (k - 1) (by omega)
        rw [toNat_of (by omega)]
        congr 1
        omega
    · rw [if_neg e, List.getElem?_eq_getElem (by rw [part_length]; exact hj)]
      simp only [part, List.getElem_map, List.getElem_range, Option.some.injEq]
      congr 1
      by_cases a : 2 * j + 1 < k
      · rw [if_pos (by omega), if_pos a]
      · by_cases b : 2 * j < k
        · omega
        · rw [if_neg (by omega), if_neg (by omega), if_neg a, if_neg b]
  · rw [List.getElem?_eq_none (by rw [part_length]; omega), List.getElem?_eq_none (by rw [part_length]; omega)]
    split
    · rw [if_neg (by rw [part_length]; omega)]
    · rfl
theorem sign_val (n : Nat) (h : n < 16) : val (sign n) = n := by
  have : ∀ n : Fin 16, val (sign n.val) = n.val := by decide
  exact this ⟨n, h⟩
theorem val_sign (c : UInt8) (h : val c < 16) : sign (val c) = c := by
  have key : ∀ n : Fin 256, val (UInt8.ofNat n.val) < 16 → sign (val (UInt8.ofNat n.val)) = UInt8.ofNat n.val := by decide +kernel
  have hc := c.toNat_lt
  have := key ⟨c.toNat, by omega⟩
  simp only [UInt8.ofNat_toNat] at this
  exact this h
theorem hex_length (l : List UInt8) : (hex l).length = 2 * l.length := by
  induction l with
  | nil => rfl
  | cons c r ih => show (sign _ :: sign _ :: hex r).length = _; simp only [List.length_cons, ih]; omega
theorem hex_get (l : List UInt8) : ∀ j, j < l.length → (hex l).getD (2 * j) 0 = sign ((l.getD j 0).toNat / 16) ∧ (hex l).getD (2 * j + 1) 0 = sign ((l.getD j 0).toNat % 16) := by
  induction l with
  | nil => intro j h; simp at h
  | cons c r ih =>
    intro j h
    cases j with
    | zero => exact ⟨rfl, rfl⟩
    | succ j =>
      have := ih j (by simpa using h)
      exact this
theorem good_iff (s : List UInt8) : good s = true ↔ ∀ i, i < s.length → val (s.getD i 0) < 16 := by
  unfold good
  rw [List.all_eq_true]
  constructor
  · intro h i hi
    have := h (s[i]) (List.getElem_mem hi)
    rw [List.getD_eq_getElem?_getD, List.getElem?_eq_getElem hi]
    simpa using this
  · intro h c hc
    obtain ⟨i, hi, rfl⟩ := List.mem_iff_getElem.1 hc
    have := h i hi
    rw [List.getD_eq_getElem?_getD, List.getElem?_eq_getElem hi] at this
    simpa using this
theorem hex_good (l : List UInt8) : good (hex l) = true := by
  rw [good_iff, hex_length]
  intro i hi
  have hd : i / 2 < l.length := by omega
  have hl := (l.getD (i / 2) 0).toNat_lt
  obtain ⟨h0, h1⟩ := hex_get l (i / 2) hd
  rcases Nat.mod_two_eq_zero_or_one i with q | q
  · rw [show 2 * (i / 2) = i by omega] at h0
    rw [h0, sign_val _ (by omega)]; omega
  · rw [show 2 * (i / 2) + 1 = i by omega] at h1
    rw [h1, sign_val _ (by omega)]; omega
theorem read_hex (l : List UInt8) (h : l.length = 32) : read (hex l) = some l := by
  unfold read
  rw [if_pos ⟨by rw [hex_length]; omega, hex_good l⟩]
  congr 1
  apply List.ext_getElem
  · rw [part_length, h]
  · intro j h1 h2
    have hl := (l.getD j 0).toNat_lt
    obtain ⟨h0, h1'⟩ := hex_get l j h2
    have hg := part_get (hex l) 64 j (by omega)
    rw [if_pos (by omega), h0, h1', sign_val _ (by omega), sign_val _ (by omega), List.getD_eq_getElem?_getD, List.getElem?_eq_getElem h1] at hg
    rw [show 16 * ((l.getD j 0).toNat / 16) + (l.getD j 0).toNat % 16 = (l.getD j 0).toNat by omega] at hg
    simp only [Option.getD_some] at hg
    rw [hg]
    simp [List.getD_eq_getElem?_getD, h2]
theorem hex_read (s d : List UInt8) (h : read s = some d) : hex d = s ∧ d.length = 32 := by
  unfold read at h
  split at h
  · rename_i q
    obtain ⟨hl, hg⟩ := q
    rw [good_iff] at hg
    cases h
    refine ⟨?_, part_length _ _⟩
    apply List.ext_getElem
    · rw [hex_length, part_length, hl]
    · intro i h1 h2
      have hd : i / 2 < 32 := by omega
      obtain ⟨h0, h1'⟩ := hex_get (part s 64) (i / 2) (by rw [part_length]; exact hd)
      have v0 := hg (2 * (i / 2)) (by omega)
      have v1 := hg (2 * (i / 2) + 1) (by omega)
      rw [part_get s 64 _ hd, if_pos (by omega)] at h0 h1'
      have ht := toNat_of (x := 16 * val (s.getD (2 * (i / 2)) 0) + val (s.getD (2 * (i / 2) + 1) 0)) (by omega)
      rw [ht] at h0 h1'
      rcases Nat.mod_two_eq_zero_or_one i with q | q
      · rw [show (16 * val (s.getD (2 * (i / 2)) 0) + val (s.getD (2 * (i / 2) + 1) 0)) / 16 = val (s.getD (2 * (i / 2)) 0) by omega, val_sign _ v0, show 2 * (i / 2) = i by omega] at h0
        rw [List.getD_eq_getElem?_getD, List.getElem?_eq_getElem h1, List.getD_eq_getElem?_getD, List.getElem?_eq_getElem h2] at h0
        simpa using h0
      · rw [show (16 * val (s.getD (2 * (i / 2)) 0) + val (s.getD (2 * (i / 2) + 1) 0)) % 16 = val (s.getD (2 * (i / 2) + 1) 0) by omega, val_sign _ v1, show 2 * (i / 2) + 1 = i by omega] at h1'
        rw [List.getD_eq_getElem?_getD, List.getElem?_eq_getElem h1, List.getD_eq_getElem?_getD, List.getElem?_eq_getElem h2] at h1'
        simpa using h1'
  · cases h
end DigP

end Go.Proofs.YtfcffglgkblidaaDoor
