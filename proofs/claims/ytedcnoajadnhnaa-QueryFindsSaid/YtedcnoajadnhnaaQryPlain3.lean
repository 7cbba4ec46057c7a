
/-
  Layer 15, plain: less asked, less fits.
-/
import Derived.Test.YtedcnoajadnhnaaQryPlain2
namespace Go.Proofs.Ytedcnoajadnhnaa
open Go.RowKit
namespace QryP
theorem fit_cut {f u lo hi ps ks mo at_ : Int} (h1 : f ≤ at_) (h2 : at_ < u) (x : Ev) : fit (f, u, lo, hi, ps, ks, mo) x = (fit (f, at_, lo, hi, ps, ks, mo) x || fit (at_ + 1, u, lo, hi, ps, ks, mo) x) := by
  unfold fit
  dsimp only
  by_cases c1 : x.1 ≤ at_
  · rw [decide_eq_true c1, decide_eq_true (show x.1 ≤ u by omega), decide_eq_false (show ¬ at_ + 1 ≤ x.1 by omega)]
    simp
  · rw [decide_eq_false c1, decide_eq_true (show f ≤ x.1 by omega), decide_eq_true (show at_ + 1 ≤ x.1 by omega)]
    simp
theorem fit_apart {f u lo hi ps ks mo at_ : Int} (x : Ev) : (fit (f, at_, lo, hi, ps, ks, mo) x && fit (at_ + 1, u, lo, hi, ps, ks, mo) x) = false := by
  unfold fit
  dsimp only
  by_cases c1 : x.1 ≤ at_
  · rw [decide_eq_false (show ¬ at_ + 1 ≤ x.1 by omega)]
    simp
  · rw [decide_eq_false c1]
    simp
theorem band64 (x y : Int) : bits .and .u64 x y = ((BitVec.ofInt 64 x &&& BitVec.ofInt 64 y).toNat : Int) := by
  show IntKind.u64.wrap ((BitVec.ofInt 64 x &&& BitVec.ofInt 64 y).toNat : Int) = _
  have := (BitVec.ofInt 64 x &&& BitVec.ofInt 64 y).isLt
  exact wrap_u (by omega) (by omega)
theorem hit_and {x l y : Int} (h : hit (bits .and .u64 x l) y = true) : hit x y = true := by
  unfold hit at h ⊢
  rw [band64, band64 x l] at h
  rw [band64]
  rw [bne_iff_ne] at h ⊢
  intro e
  apply h
  have e2 : BitVec.ofInt 64 x &&& BitVec.ofInt 64 y = 0#64 := by
    apply BitVec.eq_of_toNat_eq
    exact_mod_cast e
  rw [BitVec.ofInt_natCast, BitVec.ofNat_toNat, BitVec.setWidth_eq, BitVec.and_comm (BitVec.ofInt 64 x), BitVec.and_assoc, e2]
  simp
theorem fit_less {f u lo hi ps ks mo lo2 hi2 lps lks : Int} (h1 : lo ≤ lo2) (h2 : hi2 ≤ hi) (x : Ev) (h : fit (f, u, lo2, hi2, bits .and .u64 ps lps, bits .and .u64 ks lks, mo) x = true) : fit (f, u, lo, hi, ps, ks, mo) x = true := by
  unfold fit at h ⊢
  dsimp only at h ⊢
  simp only [Bool.and_eq_true, decide_eq_true_eq] at h ⊢
  exact ⟨h.1, ⟨by omega, by omega⟩, hit_and h.2.2.1, hit_and h.2.2.2⟩
end QryP
end Go.Proofs.Ytedcnoajadnhnaa
