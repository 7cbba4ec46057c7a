
/-
  IndexBack: the walk, with what the statement's openers hand over.
-/
import Derived.Test.YtgklleicoikcjaaIdxOpen
import Derived.Test.YtgklleicoikcjaaIdx7
namespace Go.Proofs.Ytgklleicoikcjaa
open Go.RowKit
set_option linter.unusedVariables false
theorem indexBack_walk' (S : Option Addr × List (Int × Int × Int × Int × Int × Int × Int) × Nat) (s : ByteArray) (w : World) (hS : Hp.RdV w S.1 (S.2.1.flatMap QryP.bc) ∧ (∀ el ∈ S.2.1, (-9223372036854775808 ≤ el.1 ∧ el.1 ≤ 9223372036854775807) ∧ (-9223372036854775808 ≤ el.2.1 ∧ el.2.1 ≤ 9223372036854775807) ∧ (0 ≤ el.2.2.1 ∧ el.2.2.1 ≤ 18446744073709551615) ∧ (-9223372036854775808 ≤ el.2.2.2.1 ∧ el.2.2.2.1 ≤ 9223372036854775807) ∧ (-9223372036854775808 ≤ el.2.2.2.2.1 ∧ el.2.2.2.2.1 ≤ 9223372036854775807) ∧ (0 ≤ el.2.2.2.2.2.1 ∧ el.2.2.2.2.2.1 ≤ 18446744073709551615) ∧ (0 ≤ el.2.2.2.2.2.2 ∧ el.2.2.2.2.2.2 ≤ 18446744073709551615)) ∧ (S.1 = none → S.2.1.length = 0 ∧ S.2.2 = 0) ∧ S.2.1.length ≤ S.2.2 ∧ S.2.2 ≤ maxLen) (hs : s.size ≤ 140737488351232) :
    Calls Try.prog 5 #[.slice S.1 S.2.1.length S.2.2, .string s] w fun e w' => e = .returned (.bool true) ∧ Below w.heap.size w w' :=
  indexBack_walk S.1 S.2.1 S.2.1.length S.2.2 s.data.toList w rfl (reach_max (Nat.le_trans hS.2.2.2.1 hS.2.2.2.2)) hS.2.1 (by show s.data.size ≤ _; exact hs) hS.1
end Go.Proofs.Ytgklleicoikcjaa
