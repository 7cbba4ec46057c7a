
/-
  The walk of Find.
-/
import Derived.Test.YtgklleicoikcjaaQry7
namespace Go.Proofs.Ytgklleicoikcjaa
open Go.RowKit
set_option linter.unusedVariables false
set_option linter.unusedSimpArgs false


end Go.Proofs.Ytgklleicoikcjaa