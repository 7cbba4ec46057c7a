
/-
  The walk of the example of layer 19.
-/
import Derived.Test.YtfioeliejblboaaReg6
namespace Go.Proofs.Ytfioeliejblboaa
open Go.RowKit
set_option linter.unusedVariables false
set_option linter.unusedSimpArgs false

theorem Try.z_part (W : World) : (zeroValue 24).run Try.prog W = .ok (.agg #[.int .i64 0, .int .i64 0, .int .i64 0, .slice none 0 0, .int .i64 0, .int .i64 0]) W := by kernel_rfl

namespace RegP
theorem ex1 : setW 4 [0, 0, 0, 0] 1 2 1 9 = [0, 0, 9, 0] := by decide +kernel
theorem ex2 : pc 4 1 2 1 1 = 0 := by decide +kernel
theorem ex3 : setW 4 [0, 0, 9, 0] 1 2 2 9 = [0, 0, 9, 0] := by decide +kernel
theorem ex4 : pc 4 1 2 2 1 = 6 := by decide +kernel
theorem ex5 : getV 4 [0, 0, 9, 0] 0 4 2 = 9 := by decide +kernel
theorem ex6 : pc 4 0 4 2 1 = 0 := by decide +kernel
theorem ex7 : takeW 4 [0, 0, 9, 0] 1 2 0 2 = [0, 9] := by decide +kernel
theorem ex8 : pc 4 1 2 0 2 = 0 := by decide +kernel
theorem ex9 : occ 4 3 2 = 1 := by decide +kernel
theorem ex10 : clearW 4 [0, 0, 9, 0] 3 2 = [0, 0, 9, 0] := by decide +kernel
end RegP

end Go.Proofs.Ytfioeliejblboaa
