/-
  A map with keys that are numbers, made by the call: make, insert, lookup, as steps of the walk.
-/
import Derived.Test.YtbebcbbjbnohnaaHeap
namespace Go.Proofs.Ytbebcbbjbnohnaa
open Go.RowKit
set_option linter.unusedVariables false
set_option linter.unusedSimpArgs false

namespace Hp
section
variable {P : Program} {w0 w : World} {H : List Blk} {D : World → Prop} {dst : Option Tmp} {ty : TypeId} {pos : String} {af : Array Edge} {g : Option (Nat × Bool)} {a : Act} {K : Act → World → Prop} {Q : Exit → Act → World → Prop}

theorem run_checkKey {kt : TypeId} {k : IntKind} (e : Bool) (n : Nat) (x : Int) (hK : P.underlying kt = some (.int k)) : (Instr.checkKey e (n + 1) kt (.int k x)).run P w = .ok () w := by
  simp [Instr.checkKey, run_underlying hK]
theorem wp_makeMap {T : TypeId} (k : ∀ r w', w.heap.size ≤ r → Below w.heap.size w w' → w'.heap[r]? = some (.map #[] 0) → K (a.put dst (.map (some r))) w') :
    Oper.wp P ⟨dst, .makeMap T none, ty, pos, af, g⟩ a w K Q := by
  have := k w.heap.size (w.alloc (.map #[] 0)) (Nat.le_refl _) ((Below.refl _ _).alloc (Nat.le_refl _) _) (heap_alloc_new w _)
  simpa [Oper.wp, execOp, Instr.makeMap, newObj, Oper.upon, Result.andThen, Sem.run] using this
theorem wp_insert {T kt et : TypeId} {kk : IntKind} {m x y : Operand} (hT : P.underlying T = some (.map kt et)) (hK : P.underlying kt = some (.int kk)) {r : Nat} {es : Array MapEntry} {clk : Nat} {key : Int} (hm : w.heap[r]? = some (.map es clk))
    (hx : a.eval m = .map (some r)) (hk : a.eval x = .int kk key) (hf : Instr.findNow (.int kk) (.int kk key) es.toList 0 = some none) {B : Nat} (hb : Below B w0 w) (hB : B ≤ r)
    (k : ∀ w', Below B w0 w' → w'.heap[r]? = some (.map (es.push { key := .int kk key, val := a.eval y, born := clk }) (clk + 1)) → K (a.put dst undef) w') :
    Oper.wp P ⟨dst, .insert T m x y, ty, pos, af, g⟩ a w K Q := by
  have hl := (Array.getElem?_eq_some_iff.1 hm).1
  have := k { w with heap := w.heap.setIfInBounds r (.map (es.push { key := .int kk key, val := a.eval y, born := clk }) (clk + 1)) } (hb.trans ⟨rfl, rfl, rfl, by simp, fun i hi => by
    show (w.heap.setIfInBounds r _)[i]? = _
    rw [Array.getElem?_setIfInBounds_ne (by omega)]⟩) (by
    show (w.heap.setIfInBounds r _)[r]? = _
    simp [hl])
  have hc := run_checkKey (P := P) (w := w) false 9999 key hK
  simpa [Oper.wp, execOp, hx, hk, Instr.mapUpdate, run_underlying hT, getObj, Sem.run, hm, hc, Instr.findKey, run_underlying hK, hf, setObj, Oper.upon, Result.andThen] using this
theorem wp_lookup {T kt et : TypeId} {kk : IntKind} {m x : Operand} (hT : P.underlying T = some (.map kt et)) (hK : P.underlying kt = some (.int kk)) {r : Nat} {es : Array MapEntry} {clk i : Nat} {key : Int} {v : Value} (hm : w.heap[r]? = some (.map es clk))
    (hx : a.eval m = .map (some r)) (hk : a.eval x = .int kk key) (hf : Instr.findNow (.int kk) (.int kk key) es.toList 0 = some (some (i, v))) (k : K (a.put dst v) w) :
    Oper.wp P ⟨dst, .lookup T m x false, ty, pos, af, g⟩ a w K Q := by
  have hc := run_checkKey (P := P) (w := w) es.isEmpty 9999 key hK
  simpa [Oper.wp, execOp, hx, hk, Instr.lookup, run_underlying hT, getObj, Sem.run, hm, hc, Instr.findKey, run_underlying hK, hf, Oper.upon, Result.andThen] using k
theorem atl_makeMap {ops : Array Oper} {rest : List Oper} {T : TypeId} (hw : Region.wanted ⟨dst, .makeMap T none, ty, pos, af, g⟩ (yielded ops a.tmps) = true) (h : Oper.wp P ⟨dst, .makeMap T none, ty, pos, af, g⟩ a w (wpList P ops Q rest) Q) : wpList P ops Q (⟨dst, .makeMap T none, ty, pos, af, g⟩ :: rest) a w := list_of hw h
theorem atl_insert {ops : Array Oper} {rest : List Oper} {T : TypeId} {m x y : Operand} (hw : Region.wanted ⟨dst, .insert T m x y, ty, pos, af, g⟩ (yielded ops a.tmps) = true) (h : Oper.wp P ⟨dst, .insert T m x y, ty, pos, af, g⟩ a w (wpList P ops Q rest) Q) : wpList P ops Q (⟨dst, .insert T m x y, ty, pos, af, g⟩ :: rest) a w := list_of hw h
end
end Hp
end Go.Proofs.Ytbebcbbjbnohnaa
