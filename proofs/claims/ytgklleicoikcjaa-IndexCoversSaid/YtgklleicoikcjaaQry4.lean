
/-
  The walks of the reference's Fits, numbers and May.
-/
import Derived.Test.YtgklleicoikcjaaQry3
namespace Go.Proofs.Ytgklleicoikcjaa
open Go.RowKit
set_option linter.unusedVariables false
set_option linter.unusedSimpArgs false


end Go.Proofs.Ytgklleicoikcjaa