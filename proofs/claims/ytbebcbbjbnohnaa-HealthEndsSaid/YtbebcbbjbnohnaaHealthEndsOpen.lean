/-
  HealthEnds, of its arguments as they are opened.
-/
import Derived.Test.YtbebcbbjbnohnaaHealthOpen
import Derived.Test.YtbebcbbjbnohnaaHealthEnds
namespace Go.Proofs.Ytbebcbbjbnohnaa
open Go.ChangeShapes Go.WideShapes Go.RowKit Go.Deep
set_option linter.unusedVariables false

theorem healthEnds_walk' (p : Int × Int × Int × (Option Addr × List Int × Nat) × Int × Int) (n : Int) (w : World) (hp : (-9223372036854775808 ≤ p.1 ∧ p.1 ≤ 9223372036854775807) ∧ (-9223372036854775808 ≤ p.2.1 ∧ p.2.1 ≤ 9223372036854775807) ∧ (-9223372036854775808 ≤ p.2.2.1 ∧ p.2.2.1 ≤ 9223372036854775807) ∧ (Hp.RdV w p.2.2.2.1.1 (p.2.2.2.1.2.1.map (Value.int .u32)) ∧ (∀ z ∈ p.2.2.2.1.2.1, (Lit.int .u32 z).wf = true) ∧ (p.2.2.2.1.1 = none → p.2.2.2.1.2.1.length = 0 ∧ p.2.2.2.1.2.2 = 0) ∧ p.2.2.2.1.2.1.length ≤ p.2.2.2.1.2.2 ∧ p.2.2.2.1.2.2 ≤ maxLen) ∧ (-9223372036854775808 ≤ p.2.2.2.2.1 ∧ p.2.2.2.2.1 ≤ 9223372036854775807) ∧ (-9223372036854775808 ≤ p.2.2.2.2.2 ∧ p.2.2.2.2.2 ≤ 9223372036854775807)) (hn : -9223372036854775808 ≤ n ∧ n ≤ 9223372036854775807) :
    Calls Try.prog 5 #[.agg #[.int .i64 p.1, .int .i64 p.2.1, .int .i64 p.2.2.1, .slice p.2.2.2.1.1 p.2.2.2.1.2.1.length p.2.2.2.1.2.2, .int .i64 p.2.2.2.2.1, .int .i64 p.2.2.2.2.2], .int .i64 n] w fun e w' => e = .returned (.bool true) ∧ Below w.heap.size w w' :=
  healthEnds_walk _ _ _ _ _ _ _ _ n w hp.2.2.2.2.1 hp.2.2.2.2.2 hn

end Go.Proofs.Ytbebcbbjbnohnaa
