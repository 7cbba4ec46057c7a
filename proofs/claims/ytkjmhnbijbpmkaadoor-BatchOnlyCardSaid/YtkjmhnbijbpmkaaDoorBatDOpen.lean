
/-
  The arguments of BatchPuts and BatchOnly, opened; the table of constants, as the card lists it.
-/
import Derived.Test.YtkjmhnbijbpmkaaDoorBatOpen
import Derived.Test.YtkjmhnbijbpmkaaDoorBat18
import Derived.LaidMore
import Derived.Stop.Joined
namespace Go.Proofs.YtkjmhnbijbpmkaaDoor
open Go.ChangeShapes Go.WideShapes Go.ChangeAt Go.RowKit Go.Deep
set_option linter.unusedVariables false

theorem gConsts : Tryd.prog.globalNamed "blackbox/digest.constants" = some 0 := by kernel_rfl
theorem tConsts : (Tryd.prog.globals[0]?).map (·.type) = some 89 := by kernel_rfl
def laidL : List (String × DataW Unit) := [("blackbox/digest.constants", Rows.laid_blackbox_digest_constants)]
theorem laid_eq : (Rows.laid_blackbox_digest_constants : DataW Unit) = .agg (DigP.consts.map fun x => .lit (.int .u32 (x.toNat : Int))) := rfl
set_option maxRecDepth 100000 in
theorem of_laid {W : World} (h : laidMetH Tryd.prog laidL W) : Hp.RdV W (some ⟨0, 0, none⟩) (DigP.wds DigP.consts) := by
  rw [MakeChecks.laidMetH_plain _ _ _ (by kernel_rfl)] at h
  obtain ⟨ps, ⟨g0, t0, cs0, f0, p0, q0, hg0, ht0, hv0, hd0, _⟩, _, _⟩ := h
  obtain rfl := Option.some.inj (gConsts.symm.trans hg0)
  obtain rfl := Option.some.inj (tConsts.symm.trans ht0)
  obtain ⟨zs, e1, e2, e3, e4⟩ := trod_nums Tryd.underlying89 Tryd.underlying48 (by kernel_rfl) (by kernel_rfl) hd0
  intro _
  refine ⟨_, rfl, fun i v hv => ?_⟩
  rw [Hp.add_head]
  have hz : zs = DigP.consts.map fun x => (x.toNat : Int) := by
    have e5 : (Rows.laid_blackbox_digest_constants : DataW Unit) = _ := e4
    rw [laid_eq] at e5
    injection e5 with e6
    have key : ∀ (a : List DigP.Wd) (b : List Int), a.map (fun x => (DataW.lit (.int .u32 (x.toNat : Int)) : DataW Unit)) = b.map (fun z => .lit (.int .u32 z)) → b = a.map fun x => (x.toNat : Int) := by
      intro a
      induction a with
      | nil => intro b hb; cases b with
        | nil => rfl
        | cons => cases hb
      | cons x r ih => intro b hb; cases b with
        | nil => cases hb
        | cons z s =>
          simp only [List.map_cons, List.cons.injEq, DataW.lit.injEq, Lit.int.injEq, true_and] at hb ⊢
          exact ⟨hb.1.symm, ih s hb.2⟩
    exact key _ _ e6
  have hcs : cs0.toList = DigP.wds DigP.consts := by rw [e1, hz]; simp [DigP.wds]
  have hc := World.var?_cell hg0 hv0 i
  rw [hc, ← Array.getElem?_toList, hcs]
  exact hv

theorem door_met (os : Os) (args : Array Value) : laidMetH Tryd.prog laidL ((World.doorLaid Tryd.prog 400 os).forCall (fun _ _ => 0) ⟨#[], args, []⟩).memory :=
  laidMetH_of_parts3 (fuel := 8) (laidMet_of_run' 8 (by kernel_rfl) (by kernel_rfl)) (by kernel_rfl) (by kernel_rfl)


theorem batchPuts_walk' (a : Int × (Option Addr × List (Int × Int × Int × Int × Int × Int) × Nat) × List UInt8) (w : World) (ha : BatFacts w a) (hG : Hp.RdV w (some ⟨0, 0, none⟩) (DigP.wds DigP.consts)) :
    Calls Tryd.prog 3 #[.agg (BatP.btA a.1 (.slice a.2.1.1 a.2.1.2.1.length a.2.1.2.2) a.2.2)] w fun e w' => e = .returned (.bool true) ∧ Below w.heap.size w w' :=
  batchPuts_walk a.1 a.2.1.1 a.2.1.2.1.length a.2.1.2.2 a.2.1.2.1 a.2.2 ha.2.2 ha.1 rfl ha.2.1.2.2.2.1 (by have h1 := ha.2.1.2.2.2.1; have h2 := ha.2.1.2.2.2.2; unfold maxLen at h2; omega) ha.2.1.2.1 w ha.2.1.1 hG
theorem batchOnly_walk' (z : ByteArray) (w : World) (hz : z.size ≤ 140737488351232) (hG : Hp.RdV w (some ⟨0, 0, none⟩) (DigP.wds DigP.consts)) :
    Calls Tryd.prog 4 #[.string z] w fun e w' => e = .returned (.bool true) ∧ Below w.heap.size w w' := by
  have h := batchOnly_walk z.data.toList (by rw [Array.length_toList]; exact hz) w hG
  rw [bstr_of] at h
  exact h
end Go.Proofs.YtkjmhnbijbpmkaaDoor
