
/-
  Bytes behind an address, turned into a text.
-/
import Derived.Test.YtkjmhnbijbpmkaaDoorDigAr
namespace Go.Proofs.YtkjmhnbijbpmkaaDoor
open Go.RowKit
namespace Hp
section
variable {P : Program}
theorem conv_rdv {W : World} {s : Option Addr} {l : List UInt8} {n cap : Nat} {T S U : TypeId} (h : RdV W s (bcells l)) (hn : n = l.length) (hT : P.underlying T = some (.slice U)) (hU : P.underlying U = some (.int .u8)) (hS : P.underlying S = some .string) :
    (convert T S (.slice s n cap)).run P W = .ok (.string (bstr l)) W := by
  subst hn
  cases s with
  | none =>
    have : l = [] := by
      cases l with
      | nil => rfl
      | cons c t => obtain ⟨p, hp, -⟩ := h (by simp [bcells]); cases hp
    subst this
    exact run_convert_bytes_nil W T U hT hU 0 cap S hS
  | some p =>
    exact run_convert_bytes_back (P := P) W T S U p cap l hT hU hS (fun j hj => h.cell j (by simp [bcells, hj]))
end
end Hp
end Go.Proofs.YtkjmhnbijbpmkaaDoor
