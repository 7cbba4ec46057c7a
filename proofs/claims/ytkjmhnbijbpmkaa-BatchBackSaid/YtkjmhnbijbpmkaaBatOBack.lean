
/-
  BatchBack: the walk, with what the statement's openers hand over.
-/
import Derived.Test.YtkjmhnbijbpmkaaBatOpen
import Derived.Test.YtkjmhnbijbpmkaaBat14
namespace Go.Proofs.Ytkjmhnbijbpmkaa
open Go.RowKit
set_option linter.unusedVariables false
theorem batchBack_walk' (a : Int × (Option Addr × List (Int × Int × Int × Int × Int × Int) × Nat) × List UInt8) (z : ByteArray) (k : Int) (w : World) (ha : BatFacts w a) (hz : z.size ≤ 140737488351232) (hk : -9223372036854775808 ≤ k ∧ k ≤ 9223372036854775807) :
    Calls Try.prog 4 #[.agg (BatP.btA a.1 (.slice a.2.1.1 a.2.1.2.1.length a.2.1.2.2) a.2.2), .string z, .int .i64 k] w fun e w' => e = .returned (.bool true) ∧ Below w.heap.size w w' := by
  have h := batchBack_walk a.1 a.2.1.1 a.2.1.2.1.length a.2.1.2.2 a.2.1.2.1 a.2.2 z.data.toList k hk.1 hk.2 ha.2.2 ha.1 rfl ha.2.1.2.2.2.1 (by have h1 := ha.2.1.2.2.2.1; have h2 := ha.2.1.2.2.2.2; unfold maxLen at h2; omega) ha.2.1.2.1 w ha.2.1.1
  rw [bstr_of] at h
  exact h
end Go.Proofs.Ytkjmhnbijbpmkaa
