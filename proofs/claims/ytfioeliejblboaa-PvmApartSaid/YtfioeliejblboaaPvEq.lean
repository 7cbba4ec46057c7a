/-
  A machine, held against itself: equal.
-/
import Derived.Test.YtfioeliejblboaaPvPlain
import Derived.ChangeKeysEq
namespace Go.Proofs.Ytfioeliejblboaa
open Go.RowKit
set_option linter.unusedVariables false
set_option linter.unusedSimpArgs false
set_option maxRecDepth 100000 in
theorem regs_eqL (a b c d e f g h : Int) (W : World) : (Op.equalIn 9999 26 (.agg #[.int .u32 a, .int .u32 b, .int .u32 c, .int .u32 d, .int .u32 e, .int .u32 f, .int .u32 g, .int .u32 h]) (.agg #[.int .u32 a, .int .u32 b, .int .u32 c, .int .u32 d, .int .u32 e, .int .u32 f, .int .u32 g, .int .u32 h])).run Try.prog W = .ok true W := by
  have u := Try.underlying25
  rw [show (9999 : Nat) = 9998 + 1 from rfl, Op.equalIn]
  simp only [Sem.run_bind, run_underlying Try.underlying26, Result.andThen_ok]
  simp only [Std.Legacy.Range.forIn_eq_forIn_range', Std.Legacy.Range.size, Nat.sub_zero, Nat.add_sub_cancel, Nat.div_one, List.range'_succ, List.range'_zero, List.forIn_cons, List.forIn_nil]
  go_simp
set_option maxRecDepth 100000 in
theorem vm_eqL (p a b c d e f g h : Int) (W : World) : (Op.equalIn 10000 28 (.agg #[.int .i64 p, .int .u32 a, .int .u32 b, .int .u32 c, .int .u32 d, .int .u32 e, .int .u32 f, .int .u32 g, .int .u32 h]) (.agg #[.int .i64 p, .int .u32 a, .int .u32 b, .int .u32 c, .int .u32 d, .int .u32 e, .int .u32 f, .int .u32 g, .int .u32 h])).run Try.prog W = .ok true W := by
  have h1 := regs_eqL a b c d e f g h
  go_simp
theorem vm_eq (v : PvP.Vm) (hv : v.2.length = 8) (W : World) : (Op.equalIn 10000 28 (.agg (PvP.vmA v)) (.agg (PvP.vmA v))).run Try.prog W = .ok true W := by
  obtain ⟨p, R⟩ := v
  match R, hv with
  | [a, b, c, d, e, f, g, h], _ => exact vm_eqL p a b c d e f g h W
end Go.Proofs.Ytfioeliejblboaa
