
/-
  ChainSpoilt: the walk, with what the statement's openers hand over.
-/
import Derived.Test.YtfcffglgkblidaaDoorChnOpen
import Derived.Test.YtfcffglgkblidaaDoorChn13
namespace Go.Proofs.YtfcffglgkblidaaDoor
open Go.RowKit
set_option linter.unusedVariables false
set_option maxRecDepth 100000
theorem chainSpoilt_walk' (d : List UInt8) (a : Option Addr × List (Int × Int × Int × Int × Int × Int) × Nat) (b : Option Addr × List Int × Nat) (i j y : Int) (w : World) (hd : d.length = 32) (ha : EvRow w a) (hb : InRow w b) (hi : -9223372036854775808 ≤ i ∧ i ≤ 9223372036854775807) (hj : -9223372036854775808 ≤ j ∧ j ≤ 9223372036854775807) (hy : 0 ≤ y ∧ y ≤ 255) (hG : Hp.RdV w (some ⟨0, 0, none⟩) (DigP.wds DigP.consts)) :
    Calls Tryd.prog 8 #[.agg (BatP.bA d), .slice a.1 a.2.1.length a.2.2, .slice b.1 b.2.1.length b.2.2, .int .i64 i, .int .i64 j, .int .u8 y] w fun e w' => e = .returned (.bool true) ∧ Below w.heap.size w w' := by
  have h := chainSpoilt_walk d hd a.1 a.2.1.length a.2.2 a.2.1 rfl ha.2.2.2.1 ha.2.2.2.2 ha.2.2.1 ha.2.1 b.1 b.2.1.length b.2.2 b.2.1 rfl i j hi.1 hi.2 hj.1 hj.2 (UInt8.ofNat y.toNat) w ha.1 hb.1 hG
  rw [show ((UInt8.ofNat y.toNat).toNat : Int) = y by simp; omega] at h
  exact h
end Go.Proofs.YtfcffglgkblidaaDoor
