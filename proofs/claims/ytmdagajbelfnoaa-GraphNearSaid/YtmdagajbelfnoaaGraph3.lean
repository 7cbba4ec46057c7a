/-
  A row of channels: five cells each.
-/
import Derived.Test.YtmdagajbelfnoaaGraph2
namespace Go.Proofs.Ytmdagajbelfnoaa
open Go.RowKit
set_option linter.unusedVariables false

namespace GraP
theorem add_off (p : Addr) (i j : Nat) (hj : j ≠ 0) : (⟨(p.add i).block, (p.add i).off + j, none⟩ : Addr) = p.add (i + j) := by
  unfold Addr.add
  by_cases hi : i = 0
  · subst hi; simp [hj]
  · rw [if_neg hi, if_neg (by omega)]; simp [Nat.add_assoc]
abbrev Ch := Int × Int × Int × Int × Int
def chc (c : Ch) : List Value := [.int .i64 c.1, .int .i64 c.2.1, .int .i64 c.2.2.1, .int .i64 c.2.2.2.1, .int .i64 c.2.2.2.2]
def chv (L : List Ch) : List Value := L.flatMap chc
theorem chv_length (L : List Ch) : (chv L).length = L.length * 5 := by
  induction L with
  | nil => rfl
  | cons c L ih => rw [chv, List.flatMap_cons, List.length_append, ← chv, ih, List.length_cons]; simp [chc]; omega
theorem chv_get (L : List Ch) : ∀ (k j : Nat) (h : k < L.length), j < 5 → (chv L)[k * 5 + j]? = (chc L[k])[j]? := by
  induction L with
  | nil => intro k j h; simp at h
  | cons c L ih =>
    intro k j h hj
    rw [chv, List.flatMap_cons, ← chv]
    cases k with
    | zero => rw [List.getElem?_append_left (by simp [chc]; omega)]; simp
    | succ k =>
      rw [List.getElem?_append_right (by simp [chc]; omega), show (k + 1) * 5 + j - (chc c).length = k * 5 + j by simp [chc]; omega]
      exact ih k j (by simpa using h) hj
theorem chv_cells {W : World} {p : Addr} {L : List Ch} (hR : Hp.RdV W (some p) (chv L)) {k : Nat} (h : k < L.length) :
    W.cell? (p.add (k * 5)) = some (.int .i64 L[k].1) ∧ W.cell? ⟨(p.add (k * 5)).block, (p.add (k * 5)).off + 1, none⟩ = some (.int .i64 L[k].2.1) ∧ W.cell? ⟨(p.add (k * 5)).block, (p.add (k * 5)).off + 2, none⟩ = some (.int .i64 L[k].2.2.1) ∧
      W.cell? ⟨(p.add (k * 5)).block, (p.add (k * 5)).off + 3, none⟩ = some (.int .i64 L[k].2.2.2.1) ∧ W.cell? ⟨(p.add (k * 5)).block, (p.add (k * 5)).off + 4, none⟩ = some (.int .i64 L[k].2.2.2.2) := by
  have g := fun j hj => chv_get L k j h hj
  rw [add_off _ _ 1 (by decide), add_off _ _ 2 (by decide), add_off _ _ 3 (by decide), add_off _ _ 4 (by decide)]
  exact ⟨hR.cell (k * 5) (g 0 (by decide)), hR.cell _ (g 1 (by decide)), hR.cell _ (g 2 (by decide)), hR.cell _ (g 3 (by decide)), hR.cell _ (g 4 (by decide))⟩
end GraP

end Go.Proofs.Ytmdagajbelfnoaa
