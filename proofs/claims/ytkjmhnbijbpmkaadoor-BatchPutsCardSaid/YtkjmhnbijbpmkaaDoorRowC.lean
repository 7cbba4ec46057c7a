
/-
  Rows of structs as data: the cells of one element, in the shapes that the walk asks.
-/
import Derived.Test.YtkjmhnbijbpmkaaDoorHeap
namespace Go.Proofs.YtkjmhnbijbpmkaaDoor
open Go.RowKit
set_option linter.unusedVariables false

namespace Hp
theorem add_offs (p : Addr) (i j : Nat) (hj : j ≠ 0) : (⟨(p.add i).block, (p.add i).off + j, none⟩ : Addr) = p.add (i + j) := by
  unfold Addr.add
  by_cases hi : i = 0
  · subst hi; simp [hj]
  · rw [if_neg hi, if_neg (by omega)]; simp [Nat.add_assoc]
theorem flat_at {α : Type} {enc : α → List Value} {size : Nat} (hsz : ∀ a, (enc a).length = size) : ∀ (L : List α) (k j : Nat) (h : k < L.length), j < size → (L.flatMap enc)[k * size + j]? = (enc L[k])[j]? := by
  intro L
  induction L with
  | nil => intro k j h; simp at h
  | cons c L ih =>
    intro k j h hj
    rw [List.flatMap_cons]
    cases k with
    | zero => rw [List.getElem?_append_left (by rw [hsz]; omega)]; simp
    | succ k =>
      rw [List.getElem?_append_right (by rw [hsz, Nat.add_mul]; omega), show (k + 1) * size + j - (enc c).length = k * size + j by rw [hsz, Nat.add_mul]; omega]
      exact ih k j (by simpa using h) hj
theorem flat_length {α : Type} {enc : α → List Value} {size : Nat} (hsz : ∀ a, (enc a).length = size) (L : List α) : (L.flatMap enc).length = L.length * size := by
  induction L with
  | nil => simp
  | cons c L ih => rw [List.flatMap_cons, List.length_append, hsz, ih, List.length_cons, Nat.add_mul]; omega
theorem flat_pos {α : Type} {enc : α → List Value} {size : Nat} (hsz : ∀ a, (enc a).length = size) (h0 : 0 < size) {L : List α} {k : Nat} (h : k < L.length) : 0 < (L.flatMap enc).length := by
  rw [flat_length hsz]
  exact Nat.mul_pos (by omega) h0
theorem row_cell {α : Type} {enc : α → List Value} {size : Nat} (hsz : ∀ a, (enc a).length = size) {W : World} {p : Addr} {L : List α} (hR : RdV W (some p) (L.flatMap enc)) {k : Nat} (h : k < L.length) (j : Nat) {v : Value} (hv : (enc L[k])[j]? = some v) : W.cell? (p.add (k * size + j)) = some v := by
  have hj : j < size := by have := (List.getElem?_eq_some_iff.1 hv).1; rw [hsz] at this; exact this
  exact hR.cell _ (by rw [flat_at hsz L k j h hj]; exact hv)
theorem row_cell0 {α : Type} {enc : α → List Value} {size : Nat} (hsz : ∀ a, (enc a).length = size) {W : World} {p : Addr} {L : List α} (hR : RdV W (some p) (L.flatMap enc)) {k : Nat} (h : k < L.length) {v : Value} (hv : (enc L[k])[0]? = some v) : W.cell? (p.add (k * size)) = some v := row_cell hsz hR h 0 hv
theorem row_cellS {α : Type} {enc : α → List Value} {size : Nat} (hsz : ∀ a, (enc a).length = size) {W : World} {p : Addr} {L : List α} (hR : RdV W (some p) (L.flatMap enc)) {k : Nat} (h : k < L.length) (j : Nat) (hj : j ≠ 0) {v : Value} (hv : (enc L[k])[j]? = some v) : W.cell? ⟨(p.add (k * size)).block, (p.add (k * size)).off + j, none⟩ = some v := by
  rw [add_offs _ _ _ hj]; exact row_cell hsz hR h j hv
end Hp

end Go.Proofs.YtkjmhnbijbpmkaaDoor
