
/-
  The walks of the closures of Fits and May, of every, numbers, Fits and May.
-/
import Derived.Test.YtgklleicoikcjaaQry1
namespace Go.Proofs.Ytgklleicoikcjaa
open Go.RowKit
set_option linter.unusedVariables false
set_option linter.unusedSimpArgs false

theorem Try.i_fn : (Try.prog.info? 27).map (fun i => (i.zero, i.size, i.bytes)) = some (some .nilFunc, 1, 8) := by kernel_rfl
theorem hit_iff {x y : Int} : QryP.hit x y = true ↔ bits .and .u64 x y ≠ 0 := by unfold QryP.hit; exact bne_iff_ne

end Go.Proofs.Ytgklleicoikcjaa