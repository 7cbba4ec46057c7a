
/-
  ChainGoes: the walk, with what the statement's openers hand over.
-/
import Derived.Test.YtfcffglgkblidaaDoorChnOpen
import Derived.Test.YtfcffglgkblidaaDoorChn11
namespace Go.Proofs.YtfcffglgkblidaaDoor
open Go.RowKit
set_option linter.unusedVariables false
set_option maxRecDepth 100000
theorem chainGoes_walk' (d : List UInt8) (a : Option Addr × List (Int × Int × Int × Int × Int × Int) × Nat) (b : Option Addr × List Int × Nat) (k : Int) (w : World) (hd : d.length = 32) (ha : EvRow w a) (hb : InRow w b) (hk : -9223372036854775808 ≤ k ∧ k ≤ 9223372036854775807) (hG : Hp.RdV w (some ⟨0, 0, none⟩) (DigP.wds DigP.consts)) :
    Calls Tryd.prog 6 #[.agg (BatP.bA d), .slice a.1 a.2.1.length a.2.2, .slice b.1 b.2.1.length b.2.2, .int .i64 k] w fun e w' => e = .returned (.bool true) ∧ Below w.heap.size w w' :=
  chainGoes_walk d hd a.1 a.2.1.length a.2.2 a.2.1 rfl ha.2.2.2.1 ha.2.2.2.2 ha.2.2.1 ha.2.1 b.1 b.2.1.length b.2.2 b.2.1 rfl k hk.1 hk.2 w ha.1 hb.1 hG
end Go.Proofs.YtfcffglgkblidaaDoor
