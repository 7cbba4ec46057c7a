
/-
  Layer 15, plain: a filter that may tell all; what is told with less asked is among what was.
-/
import Derived.Test.YtedcnoajadnhnaaQry5
namespace Go.Proofs.Ytedcnoajadnhnaa
open Go.RowKit
namespace QryP
theorem gath_all (q : Qy) : ∀ (l T : List Ev), ((T.length + l.length : Nat) : Int) ≤ q.2.2.2.2.2.2 → gath q l T = (T ++ l.filter (fit q), l.length)
  | [], T, _ => by simp [gath]
  | x :: r, T, h => by
    simp only [List.length_cons] at h
    have h1 : ¬ q.2.2.2.2.2.2 ≤ (T.length : Int) := by omega
    cases hf : fit q x with
    | true =>
      rw [gath_yes h1 hf, gath_all q r (T ++ [x]) (by simp only [List.length_append, List.length_cons, List.length_nil]; omega)]
      simp [hf]
    | false =>
      rw [gath_no h1 hf, gath_all q r T (by omega)]
      simp [hf]
theorem filt_all {q : Qy} {l : List Ev} (h : (l.length : Int) ≤ q.2.2.2.2.2.2) : filt q l = l.filter (fit q) := by
  unfold filt
  rw [gath_all q l [] (by simpa using h)]
  rfl
/-- How many of z are met, one behind the other, going through w. -/
def met : List Ev → List Ev → Nat
  | [], _ => 0
  | _ :: _, [] => 0
  | x :: w, y :: z => if x = y then met w z + 1 else met w (y :: z)
theorem met_sub : ∀ {w z : List Ev}, z.Sublist w → met w z = z.length
  | [], _, h => by cases h; rfl
  | x :: w, [], _ => rfl
  | x :: w, y :: z, h => by
    rw [met]
    by_cases e : x = y
    · subst e
      rw [if_pos rfl, met_sub (List.cons_sublist_cons.1 h)]; rfl
    · rw [if_neg e]
      cases h with
      | cons _ h => exact met_sub h
      | cons_cons _ h => exact absurd rfl e
theorem filter_sub (p r : Ev → Bool) (l : List Ev) (h : ∀ x, r x = true → p x = true) : (l.filter r).Sublist (l.filter p) := by
  have e : l.filter r = (l.filter p).filter r := by
    rw [List.filter_filter]
    apply List.filter_congr
    intro x _
    cases hr : r x with
    | true => simp [h x hr]
    | false => simp
  rw [e]
  exact List.filter_sublist
theorem filter_two (p a b : Ev → Bool) (h : ∀ x, p x = (a x || b x)) (hd : ∀ x, (a x && b x) = false) : ∀ l : List Ev, (l.filter a).length + (l.filter b).length = (l.filter p).length
  | [] => rfl
  | x :: r => by
    have ih := filter_two p a b h hd r
    have h1 := h x
    have h2 := hd x
    cases ha : a x <;> cases hb : b x <;> simp [ha, hb] at h1 h2 <;> simp [ha, hb, h1] <;> omega
end QryP
end Go.Proofs.Ytedcnoajadnhnaa
