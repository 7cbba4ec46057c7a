
/-
  ChainLinks: the walk, with what the statement's openers hand over.
-/
import Derived.Test.YtfcffglgkblidaaDoorChnOpen
import Derived.Test.YtfcffglgkblidaaDoorChn5
namespace Go.Proofs.YtfcffglgkblidaaDoor
open Go.RowKit
set_option linter.unusedVariables false
set_option maxRecDepth 100000
theorem chainLinks_walk' (d : List UInt8) (a : Option Addr × List (Int × Int × Int × Int × Int × Int) × Nat) (w : World) (hd : d.length = 32) (ha : EvRow w a) (hG : Hp.RdV w (some ⟨0, 0, none⟩) (DigP.wds DigP.consts)) :
    Calls Tryd.prog 3 #[.agg (BatP.bA d), .slice a.1 a.2.1.length a.2.2] w fun e w' => e = .returned (.bool true) ∧ Below w.heap.size w w' :=
  chainLinks_walk d hd a.1 a.2.1.length a.2.2 a.2.1 rfl ha.2.2.2.1 ha.2.2.2.2 ha.2.2.1 ha.2.1 w ha.1 hG
end Go.Proofs.YtfcffglgkblidaaDoor
