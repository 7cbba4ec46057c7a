
/-
  QueryFinds: the walk, with what the statement's openers hand over.
-/
import Derived.Test.YtedcnoajadnhnaaQryOpen2
import Derived.Test.YtedcnoajadnhnaaQry17
namespace Go.Proofs.Ytedcnoajadnhnaa
open Go.RowKit
open Go.ChangeShapes Go.WideShapes Go.Deep
set_option linter.unusedVariables false
theorem queryFinds_walk' (q : Int × Int × Int × Int × Int × Int × Int) (step : Int) (S : Option Addr × List (Int × Int × Int × Int × Int × Int) × Nat) (w : World) (hq : (0 ≤ q.1 ∧ q.1 ≤ 18446744073709551615) ∧ (0 ≤ q.2.1 ∧ q.2.1 ≤ 18446744073709551615) ∧ (-9223372036854775808 ≤ q.2.2.1 ∧ q.2.2.1 ≤ 9223372036854775807) ∧ (-9223372036854775808 ≤ q.2.2.2.1 ∧ q.2.2.2.1 ≤ 9223372036854775807) ∧ (0 ≤ q.2.2.2.2.1 ∧ q.2.2.2.2.1 ≤ 18446744073709551615) ∧ (0 ≤ q.2.2.2.2.2.1 ∧ q.2.2.2.2.2.1 ≤ 18446744073709551615) ∧ (-9223372036854775808 ≤ q.2.2.2.2.2.2 ∧ q.2.2.2.2.2.2 ≤ 9223372036854775807)) (hst : -9223372036854775808 ≤ step ∧ step ≤ 9223372036854775807) (hS : (Hp.RdV w S.1 (S.2.1.flatMap EvP.evc) ∧ (∀ el ∈ S.2.1, (0 ≤ el.1 ∧ el.1 ≤ 18446744073709551615) ∧ (-9223372036854775808 ≤ el.2.1 ∧ el.2.1 ≤ 9223372036854775807) ∧ (-9223372036854775808 ≤ el.2.2.1 ∧ el.2.2.1 ≤ 9223372036854775807) ∧ (-9223372036854775808 ≤ el.2.2.2.1 ∧ el.2.2.2.1 ≤ 9223372036854775807) ∧ (-9223372036854775808 ≤ el.2.2.2.2.1 ∧ el.2.2.2.2.1 ≤ 9223372036854775807) ∧ (-9223372036854775808 ≤ el.2.2.2.2.2 ∧ el.2.2.2.2.2 ≤ 9223372036854775807)) ∧ (S.1 = none → S.2.1.length = 0 ∧ S.2.2 = 0) ∧ S.2.1.length ≤ S.2.2 ∧ S.2.2 ≤ maxLen)) :
    Calls Try.prog 7 #[.agg #[.int .u64 q.1, .int .u64 q.2.1, .int .i64 q.2.2.1, .int .i64 q.2.2.2.1, .int .u64 q.2.2.2.2.1, .int .u64 q.2.2.2.2.2.1, .int .i64 q.2.2.2.2.2.2], .int .i64 step, .slice S.1 S.2.1.length S.2.2] w fun e w' => e = .returned (.bool true) ∧ Below w.heap.size w w' :=
  queryFinds_walk q.1 q.2.1 q.2.2.1 q.2.2.2.1 q.2.2.2.2.1 q.2.2.2.2.2.1 q.2.2.2.2.2.2 step S.1 S.2.1 S.2.1.length S.2.2 w hq.1 hq.2.1 hq.2.2.1 hq.2.2.2.1 hq.2.2.2.2.1 hq.2.2.2.2.2.1 hq.2.2.2.2.2.2 rfl hS.2.2.2.1 (by have := hS.2.2.2.2; unfold maxLen at this; omega) hS.2.1 hS.1
end Go.Proofs.Ytedcnoajadnhnaa