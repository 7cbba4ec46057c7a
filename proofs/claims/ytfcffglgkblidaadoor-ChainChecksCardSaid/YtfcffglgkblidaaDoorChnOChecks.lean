
/-
  ChainChecks: the walk, with what the statement's openers hand over.
-/
import Derived.Test.YtfcffglgkblidaaDoorChnOpen
import Derived.Test.YtfcffglgkblidaaDoorChn9
namespace Go.Proofs.YtfcffglgkblidaaDoor
open Go.RowKit
set_option linter.unusedVariables false
set_option maxRecDepth 100000
theorem chainChecks_walk' (d : List UInt8) (f : Int) (a : Option Addr × List (List UInt8) × Nat) (w : World) (hd : d.length = 32) (hf : 0 ≤ f ∧ f ≤ 18446744073709551615) (ha : TxRow w a) (hG : Hp.RdV w (some ⟨0, 0, none⟩) (DigP.wds DigP.consts)) :
    Calls Tryd.prog 4 #[.agg (BatP.bA d), .int .u64 f, .slice a.1 a.2.1.length a.2.2] w fun e w' => e = .returned (.bool true) ∧ Below w.heap.size w w' :=
  chainChecks_walk d hd f hf a.1 a.2.1.length a.2.2 a.2.1 rfl w ha.1 hG
end Go.Proofs.YtfcffglgkblidaaDoor
