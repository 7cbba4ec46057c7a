
/-
  BatchTells: the walk, with what the statement's openers hand over.
-/
import Derived.Test.YtkjmhnbijbpmkaaBatOpen
import Derived.Test.YtkjmhnbijbpmkaaBat15
namespace Go.Proofs.Ytkjmhnbijbpmkaa
open Go.ChangeShapes Go.WideShapes Go.RowKit Go.Deep
set_option linter.unusedVariables false
theorem open_w32 {H : Type} {enc : TypeId × Value → H} {w : World} {spare : Nat → Bool} {held : Bool} {r : Reach} {b0 base : Nat} {v : Value} {d : DataW H} {p : List MemPlace} (hv : Value.okWide Try.prog w r b0 38 v) (h : DataW.Trod enc Try.prog w base spare held 38 v d p) : ∃ a : Int, v = .int .u32 a ∧ 0 ≤ a ∧ a ≤ 4294967295 := by
  obtain ⟨a, e, rfl, rfl, hw⟩ := open_int Try.underlying38 hv h
  exact ⟨a, e, wf_u32 hw⟩
theorem batchTells_walk' (a : Int × (Option Addr × List (Int × Int × Int × Int × Int × Int) × Nat) × List UInt8) (k y : Int) (w : World) (ha : BatFacts w a) (hk : -9223372036854775808 ≤ k ∧ k ≤ 9223372036854775807) (hy : 0 ≤ y ∧ y ≤ 4294967295) :
    Calls Try.prog 5 #[.agg (BatP.btA a.1 (.slice a.2.1.1 a.2.1.2.1.length a.2.1.2.2) a.2.2), .int .i64 k, .int .u32 y] w fun e w' => e = .returned (.bool true) ∧ Below w.heap.size w w' := by
  have h := batchTells_walk a.1 a.2.1.1 a.2.1.2.1.length a.2.1.2.2 a.2.1.2.1 a.2.2 k y.toNat hk.1 hk.2 (by omega) ha.2.2 ha.1 rfl ha.2.1.2.2.2.1 (by have h1 := ha.2.1.2.2.2.1; have h2 := ha.2.1.2.2.2.2; unfold maxLen at h2; omega) ha.2.1.2.1 w ha.2.1.1
  rw [show ((y.toNat : Nat) : Int) = y by omega] at h
  exact h
end Go.Proofs.Ytkjmhnbijbpmkaa
