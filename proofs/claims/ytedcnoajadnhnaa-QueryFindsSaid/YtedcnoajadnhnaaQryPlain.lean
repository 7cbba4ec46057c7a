
/-
  Layer 15, plain: what fits, what may, what is found.
-/
import Derived.Test.YtedcnoajadnhnaaEvPlain
import Derived.WalkKit
namespace Go.Proofs.Ytedcnoajadnhnaa
open Go.RowKit

namespace QryP
abbrev Ev := EvP.Ev
/-- A query: from, to, low, high, parts, kinds, most. -/
abbrev Qy := Int × Int × Int × Int × Int × Int × Int
/-- A block: at, many, first, low, high, parts, kinds. -/
abbrev Bk := Int × Int × Int × Int × Int × Int × Int
def zeroB : Bk := (0, 0, 0, 0, 0, 0, 0)
def hit (x y : Int) : Bool := bits .and .u64 x y != 0
def partS (p : Int) : Int := if -1 ≤ p ∧ p ≤ 31 then 2 ^ (p + 1).toNat else 0
def kindS (k : Int) : Int := if 1 ≤ k ∧ k ≤ 8 then 2 ^ k.toNat else 0
def fit (q : Qy) (x : Ev) : Bool := (decide (q.1 ≤ x.1) && decide (x.1 ≤ q.2.1)) && ((decide (q.2.2.1 ≤ x.2.1) && decide (x.2.1 ≤ q.2.2.2.1)) && (hit q.2.2.2.2.1 (partS x.2.2.1) && hit q.2.2.2.2.2.1 (kindS x.2.2.2.1)))
/-- The greatest number of a block's events; all of them may be, if they run over. -/
def over (b : Bk) : Bool := decide (18446744073709551615 - b.2.2.1 < b.2.1 - 1)
def loB (b : Bk) : Int := if over b = true then 0 else b.2.2.1
def hiB (b : Bk) : Int := if over b = true then 18446744073709551615 else b.2.2.1 + (b.2.1 - 1)
def numB (q : Qy) (b : Bk) : Bool := decide ((if q.1 ≤ loB b then loB b else q.1) ≤ (if hiB b ≤ q.2.1 then hiB b else q.2.1))
def may (q : Qy) (b : Bk) : Bool := decide (0 < b.2.1) && (numB q b && ((decide (q.2.2.1 ≤ b.2.2.2.2.1) && decide (b.2.2.2.1 ≤ q.2.2.2.1)) && (hit q.2.2.2.2.1 b.2.2.2.2.2.1 && hit q.2.2.2.2.2.1 b.2.2.2.2.2.2)))
/-- Events are gathered: what is told then, and how many were gone through. -/
def gath (q : Qy) : List Ev → List Ev → List Ev × Nat
  | [], told => (told, 0)
  | x :: r, told => if q.2.2.2.2.2.2 ≤ (told.length : Int) then (told, 0) else ((gath q r (if fit q x = true then told ++ [x] else told)).1, (gath q r (if fit q x = true then told ++ [x] else told)).2 + 1)
def filt (q : Qy) (l : List Ev) : List Ev := (gath q l []).1
def coverN (many : Int) : Int → List Bk → Bool
  | at_, [] => decide (at_ = many)
  | at_, b :: r => decide (b.1 = at_) && (decide (1 ≤ b.2.1) && (decide (b.2.1 ≤ many - at_) && coverN many (at_ + b.2.1) r))
def cover (many : Int) (bs : List Bk) : Bool := coverN many 0 bs
def findN (q : Qy) (l : List Ev) : List Bk → List Ev × Nat → List Ev × Nat
  | [], s => s
  | b :: r, s => findN q l r (if may q b = true then ((gath q ((l.drop b.1.toNat).take b.2.1.toNat) s.1).1, s.2 + (gath q ((l.drop b.1.toNat).take b.2.1.toNat) s.1).2) else s)
def find (q : Qy) (l : List Ev) (bs : List Bk) : (List Ev × Nat) × Int := if cover l.length bs = true then (findN q l bs ([], 0), 0) else (([], 0), 1)

theorem partS_range {p : Int} : 0 ≤ partS p ∧ partS p ≤ 18446744073709551615 := by
  unfold partS
  split
  · rename_i h
    have : (p + 1).toNat ≤ 32 := by omega
    have h2 : (2 : Int) ^ (p + 1).toNat ≤ 2 ^ 32 := by exact_mod_cast Nat.pow_le_pow_right (n := 2) (by decide) this
    have h3 : (0 : Int) < 2 ^ (p + 1).toNat := by exact_mod_cast Nat.pow_pos (show 0 < 2 by decide)
    omega
  · omega
theorem kindS_range {k : Int} : 0 ≤ kindS k ∧ kindS k ≤ 18446744073709551615 := by
  unfold kindS
  split
  · rename_i h
    have : k.toNat ≤ 8 := by omega
    have h2 : (2 : Int) ^ k.toNat ≤ 2 ^ 8 := by exact_mod_cast Nat.pow_le_pow_right (n := 2) (by decide) this
    have h3 : (0 : Int) < 2 ^ k.toNat := by exact_mod_cast Nat.pow_pos (show 0 < 2 by decide)
    omega
  · omega
end QryP

end Go.Proofs.Ytedcnoajadnhnaa
