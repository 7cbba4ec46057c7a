/-
  Plain laws of layer 24: a set that grows, grows by a bit.
-/
import Derived.Test.YtmdagajbelfnoaaGraphPlain
namespace Go.Proofs.Ytmdagajbelfnoaa

namespace GraP
theorem count_le {p q : Nat → Bool} (h : ∀ x, p x = true → q x = true) (l : List Nat) : l.countP p ≤ l.countP q := by
  induction l with
  | nil => simp
  | cons a l ih =>
    rw [List.countP_cons, List.countP_cons]
    cases hp : p a with
    | true => rw [h a hp]; simp; exact ih
    | false => cases q a <;> simp <;> omega
theorem count_lt {p q : Nat → Bool} (h : ∀ x, p x = true → q x = true) (l : List Nat) {b : Nat} (hb : b ∈ l) (h1 : q b = true) (h2 : p b = false) : l.countP p < l.countP q := by
  induction l with
  | nil => cases hb
  | cons a l ih =>
    rw [List.countP_cons, List.countP_cons]
    have hle := count_le h l
    rcases List.mem_cons.1 hb with rfl | hb
    · rw [h1, h2]; simp; omega
    · have := ih hb
      cases hp : p a with
      | true => rw [h a hp]; simp; exact this
      | false => cases q a <;> simp <;> omega
def cnt (s : Nat) : Nat := (List.range 64).countP (fun i => s.testBit i)
theorem cnt_le (s : Nat) : cnt s ≤ 64 := by
  have := List.countP_le_length (p := fun i => s.testBit i) (l := List.range 64)
  simpa [cnt] using this
theorem fur_grow {es : List Edge} {s : Nat} (hf : fur es s < 2 ^ 64) (h : fur es s ≠ s) : cnt s < cnt (fur es s) := by
  have hsub : ∀ x, s.testBit x = true → (fur es s).testBit x = true := fun x hx => (fur_bit es s x).2 (.inl hx)
  have hex : ∃ b, (fur es s).testBit b = true ∧ s.testBit b = false := by
    refine Classical.byContradiction fun hn => h (Nat.eq_of_testBit_eq fun i => ?_)
    cases h1 : s.testBit i with
    | true => exact hsub i h1
    | false =>
      cases h2 : (fur es s).testBit i with
      | false => rfl
      | true => exact absurd ⟨i, h2, h1⟩ hn
  obtain ⟨b, h1, h2⟩ := hex
  refine count_lt hsub _ (List.mem_range.2 (Classical.byContradiction fun hn => ?_)) h1 h2
  rw [Nat.testBit_lt_two_pow (Nat.lt_of_lt_of_le hf (Nat.pow_le_pow_right (by decide) (by omega)))] at h1
  cases h1
end GraP

end Go.Proofs.Ytmdagajbelfnoaa
