/-
  The arguments of layer 20's statements, opened.
-/
import Derived.Test.YtkakehhoneplhaaInsnOpen
import Derived.Test.YtkakehhoneplhaaInsn5
namespace Go.Proofs.Ytkakehhoneplhaa
open Go.ChangeShapes Go.WideShapes Go.RowKit Go.Deep
set_option linter.unusedVariables false

theorem insnBack_walk' (y : Int × Int × Int × Int) (z : Int) (w : World) (hy : (-9223372036854775808 ≤ y.1 ∧ y.1 ≤ 9223372036854775807) ∧ (-9223372036854775808 ≤ y.2.1 ∧ y.2.1 ≤ 9223372036854775807) ∧ (-9223372036854775808 ≤ y.2.2.1 ∧ y.2.2.1 ≤ 9223372036854775807) ∧ (-9223372036854775808 ≤ y.2.2.2 ∧ y.2.2.2 ≤ 9223372036854775807)) (hz : 0 ≤ z ∧ z ≤ 4294967295) :
    Calls Try.prog 5 #[.agg #[.int .i64 y.1, .int .i64 y.2.1, .int .i64 y.2.2.1, .int .i64 y.2.2.2], .int .u32 z] w fun e w' => e = .returned (.bool true) ∧ Below w.heap.size w w' :=
  insnBack_walk _ _ _ _ _ w hy.1 hy.2.1 hy.2.2.1 hy.2.2.2 hz

theorem insnWrong_walk' (x : Option Addr × List Int × Nat) (w : World) (hx : Hp.RdV w x.1 (wds x.2.1) ∧ (∀ z ∈ x.2.1, 0 ≤ z ∧ z ≤ 4294967295) ∧ x.2.1.length ≤ 9223372036854775807) :
    Calls Try.prog 7 #[.slice x.1 x.2.1.length x.2.2] w fun e w' => e = .returned (.bool true) ∧ Below w.heap.size w w' :=
  insnWrong_walk _ _ _ _ w rfl hx.2.2 hx.1 hx.2.1

end Go.Proofs.Ytkakehhoneplhaa
