
/-
  BatchGets: the walk, with what the statement's openers hand over.
-/
import Derived.Test.YtkjmhnbijbpmkaaBat13
namespace Go.Proofs.Ytkjmhnbijbpmkaa
open Go.RowKit
set_option linter.unusedVariables false
theorem batchGets_walk' (z : ByteArray) (w : World) (hz : z.size ≤ 140737488351232) :
    Calls Try.prog 3 #[.string z] w fun e w' => e = .returned (.bool true) ∧ Below w.heap.size w w' := by
  have h := batchGets_walk z.data.toList (by rw [Array.length_toList]; exact hz) w
  rw [bstr_of] at h
  exact h
end Go.Proofs.Ytkjmhnbijbpmkaa
