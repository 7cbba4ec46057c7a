/-
  PvmKeeps: the walk, with what the statement's openers hand over.
-/
import Derived.Test.YtfioeliejblboaaPvOpen
import Derived.Test.YtfioeliejblboaaPv12
namespace Go.Proofs.Ytfioeliejblboaa
open Go.RowKit
set_option linter.unusedVariables false
theorem pvmKeeps_walk' (x : Int) (a : Int × Int × Int × (Option Addr × List Int × Nat) × Int × Int) (v : PvP.Vm) (l : Option Addr × List Int × Nat) (w : World) (hx : -9223372036854775808 ≤ x ∧ x ≤ 9223372036854775807) (ha : (-9223372036854775808 ≤ a.1 ∧ a.1 ≤ 9223372036854775807) ∧ (-9223372036854775808 ≤ a.2.1 ∧ a.2.1 ≤ 9223372036854775807) ∧ (-9223372036854775808 ≤ a.2.2.1 ∧ a.2.2.1 ≤ 9223372036854775807) ∧ (Hp.RdV w a.2.2.2.1.1 (a.2.2.2.1.2.1.map (Value.int .u32)) ∧ (∀ z ∈ a.2.2.2.1.2.1, (Lit.int .u32 z).wf = true) ∧ (a.2.2.2.1.1 = none → a.2.2.2.1.2.1.length = 0 ∧ a.2.2.2.1.2.2 = 0) ∧ a.2.2.2.1.2.1.length ≤ a.2.2.2.1.2.2 ∧ a.2.2.2.1.2.2 ≤ maxLen) ∧ (-9223372036854775808 ≤ a.2.2.2.2.1 ∧ a.2.2.2.2.1 ≤ 9223372036854775807) ∧ (-9223372036854775808 ≤ a.2.2.2.2.2 ∧ a.2.2.2.2.2 ≤ 9223372036854775807)) (hv : PvP.VmB v) (hl : (Hp.RdV w l.1 (l.2.1.map (Value.int .u32)) ∧ (∀ z ∈ l.2.1, (Lit.int .u32 z).wf = true) ∧ (l.1 = none → l.2.1.length = 0 ∧ l.2.2 = 0) ∧ l.2.1.length ≤ l.2.2 ∧ l.2.2 ≤ maxLen)) :
    Calls Try.prog 5 #[.int .i64 x, .agg #[.int .i64 a.1, .int .i64 a.2.1, .int .i64 a.2.2.1, .slice a.2.2.2.1.1 a.2.2.2.1.2.1.length a.2.2.2.1.2.2, .int .i64 a.2.2.2.2.1, .int .i64 a.2.2.2.2.2], .agg (PvP.vmA v), .slice l.1 l.2.1.length l.2.2] w fun e w' => e = .returned (.bool true) ∧ Below w.heap.size w w' :=
  pvmKeeps_walk x a.1 a.2.1 a.2.2.1 a.2.2.2.1.1 a.2.2.2.1.2.1.length a.2.2.2.1.2.2 a.2.2.2.2.1 a.2.2.2.2.2 a.2.2.2.1.2.1 v.1 v.2 l.1 l.2.1 l.2.1.length l.2.2 w hx ha.1 ha.2.1 rfl ha.2.2.2.1.2.2.2.1 (reach_max (Nat.le_trans ha.2.2.2.1.2.2.2.1 ha.2.2.2.1.2.2.2.2)) (wf_words ha.2.2.2.1.2.1) hv rfl (reach_max (Nat.le_trans hl.2.2.2.1 hl.2.2.2.2)) (wf_words hl.2.1) ha.2.2.2.1.1 hl.1
end Go.Proofs.Ytfioeliejblboaa
