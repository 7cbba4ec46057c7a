
/-
  IndexCovers: the plain law of a block's marks, event by event.
-/
import Derived.Test.YtgklleicoikcjaaBlkPlain2
namespace Go.Proofs.Ytgklleicoikcjaa
open Go.RowKit
set_option linter.unusedVariables false
namespace QryP
/-- One of the first j events of s bears the time t. -/
def seenT (s : List Ev) (t : Int) (j : Nat) : Bool := (s.take j).any (fun x => decide (x.2.1 = t))
theorem take_next {s : List Ev} {j : Nat} (h : j < s.length) : s.take (j + 1) = s.take j ++ [s[j]] := by
  rw [List.take_add_one, List.getElem?_eq_getElem h]; rfl
theorem seenT_next {s : List Ev} {t : Int} {j : Nat} (h : j < s.length) : seenT s t (j + 1) = (seenT s t j || decide (s[j].2.1 = t)) := by
  unfold seenT; rw [take_next h, List.any_append]; simp
theorem seenT_zero {s : List Ev} {t : Int} : seenT s t 0 = false := rfl
theorem seenT_low {s : List Ev} (h : s ≠ []) : seenT s (lowT s) s.length = true := by
  obtain ⟨x, hx, ht⟩ := lowT_mem h
  unfold seenT; rw [List.take_length, List.any_eq_true]
  exact ⟨x, hx, by simpa using ht⟩
theorem seenT_high {s : List Ev} (h : s ≠ []) : seenT s (highT s) s.length = true := by
  obtain ⟨x, hx, ht⟩ := highT_mem h
  unfold seenT; rw [List.take_length, List.any_eq_true]
  exact ⟨x, hx, by simpa using ht⟩
theorem orP_next {s : List Ev} {j : Nat} (h : j < s.length) : orP (s.take (j + 1)) = bits .or .u64 (orP (s.take j)) (partS s[j].2.2.1) := by
  rw [take_next h, orP_app, orP_one]
theorem orK_next {s : List Ev} {j : Nat} (h : j < s.length) : orK (s.take (j + 1)) = bits .or .u64 (orK (s.take j)) (kindS s[j].2.2.2.1) := by
  rw [take_next h, orK_app, orK_one]
end QryP
end Go.Proofs.Ytgklleicoikcjaa
