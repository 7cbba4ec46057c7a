/-
  The walk of reached.
-/
import Derived.Test.YtmdagajbelfnoaaGraph5
import Derived.Test.YtmdagajbelfnoaaGraphPlain2
namespace Go.Proofs.Ytmdagajbelfnoaa
open Go.RowKit
set_option linter.unusedVariables false
set_option linter.unusedSimpArgs false

namespace GraP
theorem edges_lt {pn : Nat} {t : Bool} {L : List Ch} : ∀ e ∈ edges pn t L, e.1 < 64 ∧ e.2 < 64 := by
  intro e he
  obtain ⟨c, hc, h⟩ := List.mem_filterMap.1 he
  obtain ⟨k0, k1, k2, k3, k4⟩ := c
  unfold edge at h
  split at h
  · rename_i hb
    obtain ⟨x, y, h1, h2, h3, h4, h5⟩ := edge_of (t := t) (k0 := k0) (k3 := k3) (k4 := k4) hb
    unfold edge at h5
    rw [if_pos hb] at h5
    rw [h5] at h
    obtain rfl := Option.some.inj h
    exact ⟨h3, h4⟩
  · cases h
theorem fur_lt {es : List Edge} (hes : ∀ e ∈ es, e.1 < 64 ∧ e.2 < 64) {s : Nat} (hs : s < 18446744073709551616) : fur es s < 18446744073709551616 := by
  have key : ∀ (l : List Edge) (m : Nat), (∀ e ∈ l, e.1 < 64 ∧ e.2 < 64) → m < 18446744073709551616 → l.foldl (fun m e => if s.testBit e.1 then m ||| 2 ^ e.2 else m) m < 18446744073709551616 := by
    intro l
    induction l with
    | nil => intro m _ h; exact h
    | cons e l ih =>
      intro m hl hm
      rw [List.foldl_cons]
      refine ih _ (fun e he => hl e (List.mem_cons_of_mem _ he)) ?_
      split
      · exact set_lt _ _ hm (hl e List.mem_cons_self).2
      · exact hm
  exact key es s hes hs
end GraP

end Go.Proofs.Ytmdagajbelfnoaa
