
/-
  Arguments opened to what the walks speak of: slices of numbers, slices of slices of numbers, structs by value.
-/
import Derived.Test.YtkjmhnbijbpmkaaDoorHeap
import Derived.Test.YtkjmhnbijbpmkaaDoorFrame
import Derived.Deep.Fields
import Derived.ChangeArms
namespace Go.Proofs.YtkjmhnbijbpmkaaDoor
open Go.ChangeShapes Go.WideShapes Go.RowKit Go.Deep
set_option linter.unusedVariables false

theorem wf_i64 {a : Int} (h : (Lit.int .i64 a).wf = true) : -9223372036854775808 ≤ a ∧ a ≤ 9223372036854775807 := by
  simpa [Lit.wf, IntKind.min, IntKind.max, IntKind.signed, IntKind.bits] using h
theorem wf_u64 {a : Int} (h : (Lit.int .u64 a).wf = true) : 0 ≤ a ∧ a ≤ 18446744073709551615 := by
  simpa [Lit.wf, IntKind.min, IntKind.max, IntKind.signed, IntKind.bits] using h
theorem wf_u32 {a : Int} (h : (Lit.int .u32 a).wf = true) : 0 ≤ a ∧ a ≤ 4294967295 := by
  simpa [Lit.wf, IntKind.min, IntKind.max, IntKind.signed, IntKind.bits] using h

section
variable {H : Type} {enc : TypeId × Value → H} {P : Program} {w : World} {spare : Nat → Bool} {held : Bool}

/-- A struct by value whose fields are one cell each: each field's value with its reading. -/
theorem open_fields {r : Reach} {b0 : Nat} {base : Nat} {t : TypeId} {fs : Array Field} {v : Value} {d : DataW H} {p : List MemPlace} (hs : P.underlying t = some (.struct fs)) (hone : oneCellFields P fs = true) (hC : P.cellsOf t = fs.size)
    (hv : Value.okWide P w r b0 t v) (h : DataW.Trod enc P w base spare held t v d p) :
    ∃ cs : Array Value, v = .agg cs ∧ cs.size = fs.size ∧ ∀ (j : Nat) (f : Field), fs[j]? = some f → ∃ (x : Value) (y : DataW H × List MemPlace) (n : Nat), cs[j]? = some x ∧ DataW.trod enc P w base spare held n f.type [x] = some y := by
  obtain ⟨cs, rfl, hsz⟩ := okWide_struct hs hv
  obtain ⟨fuel, hf⟩ := h
  obtain ⟨ys, n, _, _, hlen, hyl, hg⟩ := DataW.trod_struct hs hf
  refine ⟨cs, rfl, hsz.trans hC, fun j f hj => ?_⟩
  obtain ⟨ho, hk⟩ := hone_of hone j f hj
  have hjl : j < fs.size := (Array.getElem?_eq_some_iff.1 hj).1
  have h1 := hg j f hj
  have hcl : j < cs.toList.length := by rw [Array.length_toList, hsz, hC]; exact hjl
  have e : ((Value.agg cs).cells.toList.drop f.offset).take (P.cellsOf f.type) = [cs.toList[j]] := by
    rw [ho, hk]
    show (cs.toList.drop j).take 1 = _
    rw [List.drop_eq_getElem_cons hcl]; rfl
  rw [e] at h1
  have hys : ys[j]? = some (ys[j]'(by omega)) := List.getElem?_eq_getElem (by omega)
  exact ⟨_, _, n, by rw [← Array.getElem?_toList]; exact List.getElem?_eq_getElem hcl, h1.trans hys⟩

/-- A slice whose elements are one cell each. -/
theorem open_cells {base n : Nat} {t e : TypeId} {x : Value} {y : DataW H × List MemPlace} (ht : P.underlying t = some (.slice e)) (hC : P.cellsOf e = 1) (h : DataW.trod enc P w base spare held n t [x] = some y) :
    ∃ (s : Option Addr) (len cap : Nat), x = .slice s len cap ∧ len ≤ cap ∧ cap ≤ maxLen ∧ (s = none → len = 0 ∧ cap = 0) ∧
      (0 < len → ∃ p, s = some p ∧ ∀ i, i < len → ∃ (v : Value) (z : DataW H × List MemPlace) (m : Nat), w.cell? (p.add i) = some v ∧ DataW.trod enc P w base spare held m e [v] = some z) := by
  rcases DataW.trod_slice ht h with ⟨hx, _⟩ | ⟨a, len, cap, elems, rest, m, _, hx, _, _, hl, hm, hlen, hin, _, _⟩
  · exact ⟨none, 0, 0, by simpa using hx, by simp, by simp [maxLen], fun _ => ⟨rfl, rfl⟩, fun h => by omega⟩
  · refine ⟨some a, len, cap, by simpa using hx, hl, hm, (fun h => by cases h), fun _ => ⟨a, rfl, fun i hi => ?_⟩⟩
    have h1 := hin i hi
    rw [List.getElem?_eq_getElem (by omega)] at h1
    obtain ⟨cs, hc, h2⟩ := Option.bind_eq_some_iff.1 h1
    rw [hC] at hc
    obtain ⟨_, hcl, hat⟩ := World.cells?_some hc
    have h0 := hat 0 (by omega)
    match cs, hcl with
    | [v], _ =>
      rw [add_add, Nat.mul_one, Nat.add_zero] at h0
      exact ⟨v, _, m, h0, h2⟩
theorem open_cellsv {r : Reach} {b0 base : Nat} {t e : TypeId} {v : Value} {d : DataW H} {p : List MemPlace} (ht : P.underlying t = some (.slice e)) (hC : P.cellsOf e = 1) (hv : Value.okWide P w r b0 t v) (h : DataW.Trod enc P w base spare held t v d p) :
    ∃ (s : Option Addr) (len cap : Nat), v = .slice s len cap ∧ len ≤ cap ∧ cap ≤ maxLen ∧ (s = none → len = 0 ∧ cap = 0) ∧
      (0 < len → ∃ p, s = some p ∧ ∀ i, i < len → ∃ (v : Value) (z : DataW H × List MemPlace) (m : Nat), w.cell? (p.add i) = some v ∧ DataW.trod enc P w base spare held m e [v] = some z) := by
  obtain ⟨a, len, cap, rfl⟩ := okWide_slice ht hv
  obtain ⟨fuel, hf⟩ := h
  exact open_cells ht hC (by simpa [Value.cells] using hf)

/-- A row of cells, each of which opens to some a : the row of these. -/
theorem row_choose {α : Type} [Inhabited α] {F : α → Value → Prop} {s : Option Addr} {len : Nat} (G : Value → Prop) (hG : ∀ v, G v → ∃ a, F a v) (h : 0 < len → ∃ p, s = some p ∧ ∀ i, i < len → ∃ v, w.cell? (p.add i) = some v ∧ G v) :
    ∃ l : List α, l.length = len ∧ ∃ vs : List Value, vs.length = len ∧ Hp.RdV w s vs ∧ ∀ (i : Nat) (h1 : i < l.length) (h2 : i < vs.length), F l[i] vs[i] := by
  by_cases h0 : 0 < len
  · obtain ⟨p, rfl, hc⟩ := h h0
    have key : ∀ i : Nat, ∃ u : α × Value, i < len → w.cell? (p.add i) = some u.2 ∧ F u.1 u.2 := by
      intro i
      by_cases hi : i < len
      · obtain ⟨v, hv, hg⟩ := hc i hi
        obtain ⟨a, ha⟩ := hG v hg
        exact ⟨(a, v), fun _ => ⟨hv, ha⟩⟩
      · exact ⟨(default, default), fun h => absurd h hi⟩
    refine ⟨(List.range len).map fun i => (key i).choose.1, by simp, (List.range len).map fun i => (key i).choose.2, by simp, fun _ => ⟨p, rfl, fun i v hv => ?_⟩, fun i h1 h2 => ?_⟩
    · have hi : i < len := by have := (List.getElem?_eq_some_iff.1 hv).1; simpa using this
      rw [List.getElem?_map, List.getElem?_range hi] at hv
      simp only [Option.map_some, Option.some.injEq] at hv
      rw [← hv]
      exact ((key i).choose_spec hi).1
    · simp at h1
      rw [List.getElem_map, List.getElem_map, List.getElem_range]
      exact ((key i).choose_spec h1).2
  · obtain rfl : len = 0 := by omega
    exact ⟨[], rfl, [], rfl, Hp.RdV.nil _ _, fun i h1 => by simp at h1⟩

/-- A slice of numbers of kind k. -/
theorem open_nums {base n : Nat} {t e : TypeId} {k : IntKind} {x : Value} {y : DataW H × List MemPlace} (ht : P.underlying t = some (.slice e)) (he : P.underlying e = some (.int k)) (hC : P.cellsOf e = 1) (h : DataW.trod enc P w base spare held n t [x] = some y) :
    ∃ (s : Option Addr) (zs : List Int) (cap : Nat), x = .slice s zs.length cap ∧ Hp.RdV w s (zs.map (Value.int k)) ∧ (∀ z ∈ zs, (Lit.int k z).wf = true) ∧ (s = none → zs.length = 0 ∧ cap = 0) ∧ zs.length ≤ cap ∧ cap ≤ maxLen := by
  obtain ⟨s, len, cap, rfl, hl, hm, hn, hc⟩ := open_cells ht hC h
  obtain ⟨zs, hz, vs, hv, hr, hf⟩ := row_choose (w := w) (s := s) (len := len) (α := Int) (F := fun a v => v = .int k a ∧ (Lit.int k a).wf = true) (fun v => ∃ (z : DataW H × List MemPlace) (m : Nat), DataW.trod enc P w base spare held m e [v] = some z) (by
    rintro v ⟨z, m, hz⟩
    obtain ⟨a, ha, _, hw⟩ := DataW.trod_int he hz
    exact ⟨a, by simpa using ha, hw⟩) (fun h0 => by
    obtain ⟨p, hp, hc⟩ := hc h0
    exact ⟨p, hp, fun i hi => by obtain ⟨v, z, m, h1, h2⟩ := hc i hi; exact ⟨v, h1, z, m, h2⟩⟩)
  have e : vs = zs.map (Value.int k) := List.ext_getElem (by simp [hz, hv]) (fun i h1 h2 => by
    have := (hf i (by simpa using h2) h1).1
    simpa using this)
  subst e
  refine ⟨s, zs, cap, by rw [hz], hr, fun z hzm => ?_, by rw [hz]; exact hn, by rw [hz]; exact hl, hm⟩
  obtain ⟨i, hi, rfl⟩ := List.getElem_of_mem hzm
  exact (hf i hi (by simpa using hi)).2
theorem open_numsv {r : Reach} {b0 base : Nat} {t e : TypeId} {k : IntKind} {v : Value} {d : DataW H} {p : List MemPlace} (ht : P.underlying t = some (.slice e)) (he : P.underlying e = some (.int k)) (hC : P.cellsOf e = 1) (hv : Value.okWide P w r b0 t v) (h : DataW.Trod enc P w base spare held t v d p) :
    ∃ (s : Option Addr) (zs : List Int) (cap : Nat), v = .slice s zs.length cap ∧ Hp.RdV w s (zs.map (Value.int k)) ∧ (∀ z ∈ zs, (Lit.int k z).wf = true) ∧ (s = none → zs.length = 0 ∧ cap = 0) ∧ zs.length ≤ cap ∧ cap ≤ maxLen := by
  obtain ⟨a, len, cap, rfl⟩ := okWide_slice ht hv
  obtain ⟨fuel, hf⟩ := h
  exact open_nums ht he hC (by simpa [Value.cells] using hf)
end

end Go.Proofs.YtkjmhnbijbpmkaaDoor
