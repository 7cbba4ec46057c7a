
/-
  ChainClashes: the walk, with what the statement's openers hand over.
-/
import Derived.Test.YtfcffglgkblidaaDoorChnOpen
import Derived.Test.YtfcffglgkblidaaDoorChn10
namespace Go.Proofs.YtfcffglgkblidaaDoor
open Go.RowKit
set_option linter.unusedVariables false
set_option maxRecDepth 100000
theorem chainClashes_walk' (a b : Option Addr × List (List UInt8) × Nat) (w : World) (ha : TxRow w a) (hb : TxRow w b) (hG : Hp.RdV w (some ⟨0, 0, none⟩) (DigP.wds DigP.consts)) :
    Calls Tryd.prog 5 #[.slice a.1 a.2.1.length a.2.2, .slice b.1 b.2.1.length b.2.2] w fun e w' => e = .returned (.bool true) ∧ Below w.heap.size w w' :=
  chainClashes_walk a.1 b.1 a.2.1.length b.2.1.length a.2.2 b.2.2 a.2.1 b.2.1 rfl rfl w ha.1 hb.1 hG
end Go.Proofs.YtfcffglgkblidaaDoor
