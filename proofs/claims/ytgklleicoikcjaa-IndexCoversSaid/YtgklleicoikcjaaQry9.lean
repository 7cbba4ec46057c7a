
/-
  The walk of the reference's Find.
-/
import Derived.Test.YtgklleicoikcjaaQry8
namespace Go.Proofs.Ytgklleicoikcjaa
open Go.RowKit
set_option linter.unusedVariables false
set_option linter.unusedSimpArgs false

namespace QryP
theorem sub_get {l : List Ev} {a m j : Nat} (h : a + m ≤ l.length) (hj : j < m) : ∃ h' : j < ((l.drop a).take m).length, ((l.drop a).take m)[j] = l[a + j]'(by omega) := by
  refine ⟨by rw [List.length_take, List.length_drop]; omega, ?_⟩
  simp
theorem sub_len {l : List Ev} {a m : Nat} (h : a + m ≤ l.length) : ((l.drop a).take m).length = m := by rw [List.length_take, List.length_drop]; omega
end QryP

end Go.Proofs.Ytgklleicoikcjaa