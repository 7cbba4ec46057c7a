/-
  Whole arrays in the walk's own blocks: loaded, stored, one cell of them.
-/
import Derived.Test.YtfioeliejblboaaSoft
import Derived.Laws.Rows
namespace Go.Proofs.Ytfioeliejblboaa
open Go.RowKit
set_option linter.unusedVariables false
set_option linter.unusedSimpArgs false
namespace Hp
section
variable {P : Program} {w0 w : World} {H : List Blk} {D : World → Prop} {dst : Option Tmp} {ty : TypeId} {pos : String} {af : Array Edge} {g : Option (Nat × Bool)} {a : Act} {K : Act → World → Prop} {Q : Exit → Act → World → Prop}
theorem putCells_all (c : Array Value) (vs : List Value) (h : vs.length = c.size) : putCells c 0 vs = vs.toArray := by
  rw [putCells_splice vs 0 c (by omega)]
  apply Array.ext'
  simp [splice, h]
/-- A whole array is stored into a block. -/
theorem wp_store_all {T : TypeId} {x y : Operand} (i : Nat) {b : Nat} {c c' : Array Value} {t : TypeId} (sh : Sh w0 w H D) (hx : a.eval x = .pointer (some ⟨b, 0, none⟩)) (hi : H[i]? = some (b, c, t)) (hv : a.eval y = .agg c')
    (hs : c'.size = c.size) (hsz : (P.info? T).map (·.size) = some c.size) (h1 : ones c'.toList = true)
    (k : ∀ w', Sh w0 w' (H.set i (b, c', t)) D → K (a.put dst undef) w') :
    Oper.wp P ⟨dst, .store T x y, ty, pos, af, g⟩ a w K Q := by
  refine wp_store i (n := c.size) (v := .agg c') sh hx hi hv hs hsz (by omega) h1 (fun w' sh' => k w' ?_)
  rw [show (Value.agg c').cells = c' from rfl, putCells_all c _ (by simpa using hs)] at sh'
  simpa using sh'
/-- A whole block, loaded. -/
theorem wpl_load_all {ops : Array Oper} {rest : List Oper} {T : TypeId} {x : Operand} (i : Nat) {b : Nat} {c : Array Value} {t : TypeId} {d : TypeDesc} (sh : Sh w0 w H D) (hg : g = none) (hx : a.eval x = .pointer (some ⟨b, 0, none⟩)) (hi : H[i]? = some (b, c, t))
    (hu : P.underlying T = some d) (hd : (match d with | .struct _ | .array _ _ => true | _ => false) = true) (hs : (P.info? T).map (·.size) = some c.size)
    (k : wpList P ops Q rest (a.put dst (.agg c)) w) : wpList P ops Q (⟨dst, .load T x, ty, pos, af, g⟩ :: rest) a w :=
  wpList_load_row hg T x rfl b hx t c (0, 0) d (sh.own _ (List.mem_of_getElem? hi)) hu hd hs k
/-- At a load of a type. -/
theorem atl_load (T : TypeId) {ops : Array Oper} {rest : List Oper} {x : Operand} (h : wpList P ops Q (⟨dst, .load T x, ty, pos, af, g⟩ :: rest) a w) : wpList P ops Q (⟨dst, .load T x, ty, pos, af, g⟩ :: rest) a w := h
/-- A cell of an own block at a variable place. -/
theorem Sh.at {i b : Nat} {c : Array Value} {t : TypeId} (h : Sh w0 w H D) (hi : H[i]? = some (b, c, t)) {j : Nat} {v : Value} (hv : c[j]? = some v) : w.cell? ⟨b, j, none⟩ = some v := boxH (h.own _ (List.mem_of_getElem? hi)) j hv
theorem exec_load {ev : Operand → Value} {T : TypeId} {x : Operand} (i : Nat) {b : Nat} {c : Array Value} {t : TypeId} (sh : Sh w0 w H D)
    (hx : ev x = .pointer (some ⟨b, 0, none⟩)) (hi : H[i]? = some (b, c, t)) (hu : (P.underlying T).map (fun d => d.isRow) = some true) (hs : (P.info? T).map (·.size) = some c.size) :
    (execOp ev ⟨dst, .load T x, ty, pos, af, g⟩).run P w = .ok (.value (.agg c)) w := by
  have h := sh.load (P := P) (T := T) i hi hu hs
  simp [execOp, hx, Instr.loadAt, Instr.sureAddr, h, Result.andThen]
end
end Hp
end Go.Proofs.Ytfioeliejblboaa
