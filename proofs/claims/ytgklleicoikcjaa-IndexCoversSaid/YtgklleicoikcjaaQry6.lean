
/-
  The walks of Filter, the reference's Filter, Same.
-/
import Derived.Test.YtgklleicoikcjaaQry5
namespace Go.Proofs.Ytgklleicoikcjaa
open Go.RowKit
set_option linter.unusedVariables false
set_option linter.unusedSimpArgs false

namespace QryP
theorem FilP.mk {L : List Ev} {w w' : World} {H R : List Hp.Blk} {D : World → Prop} {s : Option Addr} {c : Nat} (sh : Hp.Sh w w' (R ++ H) D) (hr : Hp.RowIs 33 6 (.slice s L.length c) L.length (L.flatMap EvP.evc) R) {e : Ending} (he : e = .returned (.slice s L.length c)) : FilP L w e w' := by
  obtain ⟨s', c', h1, h2, h3, h4⟩ := hr.slice
  cases h1
  exact ⟨s, c, he, Hp.row_new sh hr, Hp.Sh.cells sh hr, sh.below, h3, h4, h2⟩
end QryP

namespace QryP
/-- What a filter has told after k. -/
def Fa (q : Qy) (l : List Ev) (k : Nat) (Tk : List Ev) : Prop := (filt q l = Tk ∧ q.2.2.2.2.2.2 ≤ (Tk.length : Int)) ∨ At q l [] k Tk
theorem Fa.stop {q : Qy} {l Tk : List Ev} {k : Nat} (h : Fa q l k Tk) (hk : k < l.length) (hm : q.2.2.2.2.2.2 ≤ (Tk.length : Int)) : Fa q l (k + 1) Tk := by
  rcases h with h | h
  · exact .inl h
  · exact .inl ⟨by unfold filt; rw [h.stop hk hm], hm⟩
theorem Fa.yes {q : Qy} {l Tk : List Ev} {k : Nat} {x : Ev} (h : Fa q l k Tk) (hk : k < l.length) (hx : l[k] = x) (hm : ¬ q.2.2.2.2.2.2 ≤ (Tk.length : Int)) (hf : fit q x = true) : Fa q l (k + 1) (Tk ++ [x]) := by
  rcases h with h | h
  · exact absurd h.2 hm
  · exact .inr (h.yes hk hx hm hf)
theorem Fa.no {q : Qy} {l Tk : List Ev} {k : Nat} {x : Ev} (h : Fa q l k Tk) (hk : k < l.length) (hx : l[k] = x) (hm : ¬ q.2.2.2.2.2.2 ≤ (Tk.length : Int)) (hf : fit q x = false) : Fa q l (k + 1) Tk := by
  rcases h with h | h
  · exact absurd h.2 hm
  · exact .inr (h.no hk hx hm hf)
theorem Fa.full {q : Qy} {l Tk : List Ev} {k : Nat} (h : Fa q l k Tk) (hk : l.length ≤ k) : filt q l = Tk := by
  rcases h with h | h
  · exact h.1
  · unfold filt; rw [h.full hk]
end QryP

end Go.Proofs.Ytgklleicoikcjaa