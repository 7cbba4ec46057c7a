/-
  Plain laws of layer 24: sets of partitions as numbers, grown channel by channel; ways.
-/
import Derived.WalkKit
namespace Go.Proofs.Ytmdagajbelfnoaa

namespace GraP
abbrev Edge := Nat × Nat
/-- The set, and all that are one channel behind it. -/
def fur (es : List Edge) (s : Nat) : Nat := es.foldl (fun m e => if s.testBit e.1 then m ||| 2 ^ e.2 else m) s
theorem bit_pow (m k v : Nat) : (m ||| 2 ^ k).testBit v = (m.testBit v || decide (k = v)) := by
  rw [Nat.testBit_or, Nat.testBit_two_pow]
theorem fold_bit (s : Nat) (es : List Edge) : ∀ (m v : Nat), (es.foldl (fun m e => if s.testBit e.1 then m ||| 2 ^ e.2 else m) m).testBit v = (m.testBit v || es.any (fun e => s.testBit e.1 && decide (e.2 = v))) := by
  induction es with
  | nil => intro m v; simp
  | cons e es ih =>
    intro m v
    rw [List.foldl_cons, ih, List.any_cons]
    by_cases h : s.testBit e.1 = true
    · rw [if_pos h, bit_pow, h]; simp [Bool.or_assoc]
    · rw [if_neg h]; simp [Bool.not_eq_true _ ▸ h]
theorem fur_bit (es : List Edge) (s v : Nat) : (fur es s).testBit v = true ↔ s.testBit v = true ∨ ∃ e ∈ es, s.testBit e.1 = true ∧ e.2 = v := by
  unfold fur
  rw [fold_bit, Bool.or_eq_true, List.any_eq_true]
  simp
/-- A way of at most k channels. -/
def D (es : List Edge) (a : Nat) : Nat → Nat → Prop
  | 0, b => a = b
  | k + 1, b => D es a k b ∨ ∃ e ∈ es, D es a k e.1 ∧ e.2 = b
def it (es : List Edge) (a : Nat) : Nat → Nat
  | 0 => 2 ^ a
  | k + 1 => fur es (it es a k)
theorem it_bit (es : List Edge) (a : Nat) : ∀ k b, (it es a k).testBit b = true ↔ D es a k b := by
  intro k
  induction k with
  | zero => intro b; rw [it, D, Nat.testBit_two_pow]; simp
  | succ k ih =>
    intro b
    rw [it, fur_bit, D, ih]
    constructor
    · rintro (h | ⟨e, h1, h2, h3⟩)
      · exact .inl h
      · exact .inr ⟨e, h1, (ih _).1 h2, h3⟩
    · rintro (h | ⟨e, h1, h2, h3⟩)
      · exact .inl h
      · exact .inr ⟨e, h1, (ih _).2 h2, h3⟩
theorem D.mono {es : List Edge} {a k m b : Nat} (h : D es a k b) (hk : k ≤ m) : D es a m b := by
  induction hk with
  | refl => exact h
  | step _ ih => exact .inl ih
theorem D.add {es : List Edge} {a b : Nat} : ∀ {m k c : Nat}, D es a k b → D es b m c → D es a (k + m) c := by
  intro m
  induction m with
  | zero => intro k c h h2; rw [D] at h2; subst h2; exact h
  | succ m ih =>
    intro k c h h2
    rcases h2 with h2 | ⟨e, h3, h4, h5⟩
    · exact .inl (ih h h2)
    · exact .inr ⟨e, h3, ih h h4, h5⟩
/-- A way from a by one channel ahead. -/
theorem D.step {es : List Edge} {e : Edge} (he : e ∈ es) : D es e.1 1 e.2 := .inr ⟨e, he, rfl, rfl⟩
/-- Each way, turned round. -/
theorem D.turn {es : List Edge} {a : Nat} : ∀ {k b : Nat}, D es a k b → D (es.map (fun e => (e.2, e.1))) b k a := by
  intro k
  induction k with
  | zero => intro b h; rw [D] at h; subst h; rfl
  | succ k ih =>
    intro b h
    rcases h with h | ⟨e, h1, h2, h3⟩
    · exact (ih h).mono (Nat.le_succ k)
    · subst h3
      have h4 := D.step (es := es.map (fun e => (e.2, e.1))) (e := (e.2, e.1)) (List.mem_map.2 ⟨e, h1, rfl⟩)
      have h5 := h4.add (ih h2)
      rw [Nat.add_comm] at h5
      exact h5
theorem it_stop {es : List Edge} {a k : Nat} (h : it es a (k + 1) = it es a k) : ∀ m, k ≤ m → it es a m = it es a k := by
  intro m hm
  induction hm with
  | refl => rfl
  | step hm ih => rw [it, ih]; exact h
end GraP

end Go.Proofs.Ytmdagajbelfnoaa
