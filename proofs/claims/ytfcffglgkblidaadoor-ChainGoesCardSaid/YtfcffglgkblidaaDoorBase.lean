
/-
  Small general lemmas for the walks of this seat: two stores to one cell; a store into a new block; endings.
-/
import Derived.WalkKit
import Derived.WalkSpells
import Derived.WalkLawsBesides
import Derived.Lib.Hide
import Derived.Deep.QuietTactic
import Derived.Deep.AppendLies
import Derived.Deep.RegionHeld3
import Derived.Deep.DrawnRows
import Derived.BigQuiet
namespace Go.Proofs.YtfcffglgkblidaaDoor
open Go.RowKit

theorem setCell2 (w : World) (a : Addr) (u v : Value) : (w.setCell a u).setCell a v = w.setCell a v := by
  simp only [World.setCell]
  congr 1
  apply Array.ext_getElem?
  intro i
  simp only [Array.getElem?_modify]
  by_cases hi : a.block = i
  · simp only [hi, if_true]
    cases h : w.heap[i]? with
    | none => rfl
    | some o =>
      cases o <;> simp
      split <;> simp
  · simp [hi]

theorem ret_of {v u : Value} (h : v = u) : Ending.returned v = .returned u := by rw [h]

theorem below_step {w w1 w2 : World} (h : Below w.heap.size w w1) (k : Below w1.heap.size w1 w2) : Below w.heap.size w w2 :=
  h.trans (k.mono h.size)

theorem bdrewN {B : Nat} {a w : World} (h : Below B a w) (n : Nat) : Below B a (w.drewN n) := ⟨h.os, h.tape, h.output, h.size, h.block⟩

/-- The worlds that have grown out of W0: nothing of W0's blocks has turned. -/
def Bel (W0 W : World) : Prop := Below W0.heap.size W0 W

theorem quietB_call {P : Program} {o : Oper} {a : Act} {K : Act → Prop} {W0 : World} (v : Value) (f : FuncId) (args : Array Value)
    (h : ∀ W, Bel W0 W → (execOp a.eval o).run P W = .ok (.enter f args) W) (hc : ∀ W, Bel W0 W → Calls P f args W fun e W' => e = .returned v ∧ Below W.heap.size W W')
    (hK : K (a.put o.dst v)) : o.quiet P a (Bel W0) K := by
  refine ⟨v, fun W hW => ?_, hK⟩
  unfold Oper.quietAt
  rw [h W hW]
  exact ⟨rfl, (hc W hW).mono fun e W' ⟨he, hb⟩ => ⟨he, below_step hW hb⟩⟩

theorem quietB_val {P : Program} {o : Oper} {a : Act} {K : Act → Prop} {W0 : World} (v : Value)
    (h : ∀ W, Bel W0 W → (execOp a.eval o).run P W = .ok (.value v) W) (hK : K (a.put o.dst v)) : o.quiet P a (Bel W0) K := by
  refine ⟨v, fun W hW => ?_, hK⟩
  unfold Oper.quietAt
  rw [h W hW]
  exact ⟨rfl, rfl⟩

end Go.Proofs.YtfcffglgkblidaaDoor
