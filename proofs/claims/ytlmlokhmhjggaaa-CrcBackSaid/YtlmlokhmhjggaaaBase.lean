/-
  Small general lemmas for the walks of this seat: two stores to one cell; a store into a new block; endings.
-/
import Derived.WalkKit
import Derived.WalkSpells
import Derived.WalkLawsBesides
import Derived.Lib.Hide
namespace Go.Proofs.Ytlmlokhmhjggaaa
open Go.RowKit

theorem setCell2 (w : World) (a : Addr) (u v : Value) : (w.setCell a u).setCell a v = w.setCell a v := by
  simp only [World.setCell]
  congr 1
  apply Array.ext_getElem?
  intro i
  simp only [Array.getElem?_modify]
  by_cases hi : a.block = i
  · simp only [hi, if_true]
    cases h : w.heap[i]? with
    | none => rfl
    | some o =>
      cases o <;> simp
      split <;> simp
  · simp [hi]

theorem ret_of {v u : Value} (h : v = u) : Ending.returned v = .returned u := by rw [h]

theorem below_step {w w1 w2 : World} (h : Below w.heap.size w w1) (k : Below w1.heap.size w1 w2) : Below w.heap.size w w2 :=
  h.trans (k.mono h.size)

end Go.Proofs.Ytlmlokhmhjggaaa
