
/-
  The walks of numbers, Fits and May, the program's and the reference's.
-/
import Derived.Test.YtgklleicoikcjaaQry2
namespace Go.Proofs.Ytgklleicoikcjaa
open Go.RowKit
set_option linter.unusedVariables false
set_option linter.unusedSimpArgs false

namespace QryP
theorem numB_eq {f u lo hi ps ks mo at_ mn fs lw hg bp bk : Int} (hf : 0 ≤ f ∧ f ≤ 18446744073709551615) (hu : 0 ≤ u ∧ u ≤ 18446744073709551615) (hfs : 0 ≤ fs ∧ fs ≤ 18446744073709551615) (hm : 0 < mn) (hm2 : mn ≤ 9223372036854775807) :
    numB (f, u, lo, hi, ps, ks, mo) (at_, mn, fs, lw, hg, bp, bk) = (decide (f ≤ u) && (decide ((fs + (mn - 1)) % 18446744073709551616 < fs) || (decide (fs ≤ u) && decide (f ≤ (fs + (mn - 1)) % 18446744073709551616)))) := by
  rw [Bool.eq_iff_iff]
  unfold numB loB hiB over
  dsimp only
  by_cases ho : 18446744073709551615 - fs < mn - 1
  · rw [decide_eq_true ho, if_pos rfl, if_pos rfl]
    simp only [decide_eq_true_eq, Bool.and_eq_true, Bool.or_eq_true]
    split <;> split <;> omega
  · rw [decide_eq_false ho]
    simp only [Bool.false_eq_true, if_false]
    simp only [decide_eq_true_eq, Bool.and_eq_true, Bool.or_eq_true]
    split <;> split <;> omega
end QryP

end Go.Proofs.Ytgklleicoikcjaa