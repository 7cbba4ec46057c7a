
/-
  IndexCovers: the walk, with what the statement's openers hand over.
-/
import Derived.Test.YtgklleicoikcjaaIdxOpen
import Derived.Test.YtgklleicoikcjaaIdx9
namespace Go.Proofs.Ytgklleicoikcjaa
open Go.RowKit
set_option linter.unusedVariables false
theorem indexCovers_walk' (a : Int) (S : Option Addr × List (Int × Int × Int × Int × Int × Int) × Nat) (w : World) (ha : -9223372036854775808 ≤ a ∧ a ≤ 9223372036854775807) (hS : Hp.RdV w S.1 (S.2.1.flatMap EvP.evc) ∧ (∀ el ∈ S.2.1, (0 ≤ el.1 ∧ el.1 ≤ 18446744073709551615) ∧ (-9223372036854775808 ≤ el.2.1 ∧ el.2.1 ≤ 9223372036854775807) ∧ (-9223372036854775808 ≤ el.2.2.1 ∧ el.2.2.1 ≤ 9223372036854775807) ∧ (-9223372036854775808 ≤ el.2.2.2.1 ∧ el.2.2.2.1 ≤ 9223372036854775807) ∧ (-9223372036854775808 ≤ el.2.2.2.2.1 ∧ el.2.2.2.2.1 ≤ 9223372036854775807) ∧ (-9223372036854775808 ≤ el.2.2.2.2.2 ∧ el.2.2.2.2.2 ≤ 9223372036854775807)) ∧ (S.1 = none → S.2.1.length = 0 ∧ S.2.2 = 0) ∧ S.2.1.length ≤ S.2.2 ∧ S.2.2 ≤ maxLen) :
    Calls Try.prog 3 #[.int .i64 a, .slice S.1 S.2.1.length S.2.2] w fun e w' => e = .returned (.bool true) ∧ Below w.heap.size w w' :=
  indexCovers_walk a S.1 S.2.1 S.2.1.length S.2.2 w rfl hS.2.2.2.1 hS.2.1 hS.1
end Go.Proofs.Ytgklleicoikcjaa
