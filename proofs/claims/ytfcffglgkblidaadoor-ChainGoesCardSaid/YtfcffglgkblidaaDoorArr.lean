
/-
  Arguments opened to what the walks speak of: slices of numbers, slices of slices of numbers, structs by value.
-/
import Derived.Test.YtfcffglgkblidaaDoorHeap
import Derived.Test.YtfcffglgkblidaaDoorFrame
import Derived.Deep.Fields
import Derived.ChangeArms
import Derived.Test.YtfcffglgkblidaaDoorBytes
namespace Go.Proofs.YtfcffglgkblidaaDoor
open Go.ChangeShapes Go.WideShapes Go.RowKit Go.Deep
set_option linter.unusedVariables false

theorem wf_i64 {a : Int} (h : (Lit.int .i64 a).wf = true) : -9223372036854775808 ≤ a ∧ a ≤ 9223372036854775807 := by
  simpa [Lit.wf, IntKind.min, IntKind.max, IntKind.signed, IntKind.bits] using h
theorem wf_u64 {a : Int} (h : (Lit.int .u64 a).wf = true) : 0 ≤ a ∧ a ≤ 18446744073709551615 := by
  simpa [Lit.wf, IntKind.min, IntKind.max, IntKind.signed, IntKind.bits] using h
theorem wf_u32 {a : Int} (h : (Lit.int .u32 a).wf = true) : 0 ≤ a ∧ a ≤ 4294967295 := by
  simpa [Lit.wf, IntKind.min, IntKind.max, IntKind.signed, IntKind.bits] using h

section
variable {H : Type} {enc : TypeId × Value → H} {P : Program} {w : World} {spare : Nat → Bool} {held : Bool}

/-- A struct by value whose fields are one cell each: each field's value with its reading. -/
theorem open_fields {r : Reach} {b0 : Nat} {base : Nat} {t : TypeId} {fs : Array Field} {v : Value} {d : DataW H} {p : List MemPlace} (hs : P.underlying t = some (.struct fs)) (hone : oneCellFields P fs = true) (hC : P.cellsOf t = fs.size)
    (hv : Value.okWide P w r b0 t v) (h : DataW.Trod enc P w base spare held t v d p) :
    ∃ cs : Array Value, v = .agg cs ∧ cs.size = fs.size ∧ ∀ (j : Nat) (f : Field), fs[j]? = some f → ∃ (x : Value) (y : DataW H × List MemPlace) (n : Nat), cs[j]? = some x ∧ DataW.trod enc P w base spare held n f.type [x] = some y := by
  obtain ⟨cs, rfl, hsz⟩ := okWide_struct hs hv
  obtain ⟨fuel, hf⟩ := h
  obtain ⟨ys, n, _, _, hlen, hyl, hg⟩ := DataW.trod_struct hs hf
  refine ⟨cs, rfl, hsz.trans hC, fun j f hj => ?_⟩
  obtain ⟨ho, hk⟩ := hone_of hone j f hj
  have hjl : j < fs.size := (Array.getElem?_eq_some_iff.1 hj).1
  have h1 := hg j f hj
  have hcl : j < cs.toList.length := by rw [Array.length_toList, hsz, hC]; exact hjl
  have e : ((Value.agg cs).cells.toList.drop f.offset).take (P.cellsOf f.type) = [cs.toList[j]] := by
    rw [ho, hk]
    show (cs.toList.drop j).take 1 = _
    rw [List.drop_eq_getElem_cons hcl]; rfl
  rw [e] at h1
  have hys : ys[j]? = some (ys[j]'(by omega)) := List.getElem?_eq_getElem (by omega)
  exact ⟨_, _, n, by rw [← Array.getElem?_toList]; exact List.getElem?_eq_getElem hcl, h1.trans hys⟩

/-- A slice whose elements are one cell each. -/
theorem open_cells {base n : Nat} {t e : TypeId} {x : Value} {y : DataW H × List MemPlace} (ht : P.underlying t = some (.slice e)) (hC : P.cellsOf e = 1) (h : DataW.trod enc P w base spare held n t [x] = some y) :
    ∃ (s : Option Addr) (len cap : Nat), x = .slice s len cap ∧ len ≤ cap ∧ cap ≤ maxLen ∧ (s = none → len = 0 ∧ cap = 0) ∧
      (0 < len → ∃ p, s = some p ∧ ∀ i, i < len → ∃ (v : Value) (z : DataW H × List MemPlace) (m : Nat), w.cell? (p.add i) = some v ∧ DataW.trod enc P w base spare held m e [v] = some z) := by
  rcases DataW.trod_slice ht h with ⟨hx, _⟩ | ⟨a, len, cap, elems, rest, m, _, hx, _, _, hl, hm, hlen, hin, _, _⟩
  · exact ⟨none, 0, 0, by simpa using hx, by simp, by simp [maxLen], fun _ => ⟨rfl, rfl⟩, fun h => by omega⟩
  · refine ⟨some a, len, cap, by simpa using hx, hl, hm, (fun h => by cases h), fun _ => ⟨a, rfl, fun i hi => ?_⟩⟩
    have h1 := hin i hi
    rw [List.getElem?_eq_getElem (by omega)] at h1
    obtain ⟨cs, hc, h2⟩ := Option.bind_eq_some_iff.1 h1
    rw [hC] at hc
    obtain ⟨_, hcl, hat⟩ := World.cells?_some hc
    have h0 := hat 0 (by omega)
    match cs, hcl with
    | [v], _ =>
      rw [add_add, Nat.mul_one, Nat.add_zero] at h0
      exact ⟨v, _, m, h0, h2⟩
theorem open_cellsv {r : Reach} {b0 base : Nat} {t e : TypeId} {v : Value} {d : DataW H} {p : List MemPlace} (ht : P.underlying t = some (.slice e)) (hC : P.cellsOf e = 1) (hv : Value.okWide P w r b0 t v) (h : DataW.Trod enc P w base spare held t v d p) :
    ∃ (s : Option Addr) (len cap : Nat), v = .slice s len cap ∧ len ≤ cap ∧ cap ≤ maxLen ∧ (s = none → len = 0 ∧ cap = 0) ∧
      (0 < len → ∃ p, s = some p ∧ ∀ i, i < len → ∃ (v : Value) (z : DataW H × List MemPlace) (m : Nat), w.cell? (p.add i) = some v ∧ DataW.trod enc P w base spare held m e [v] = some z) := by
  obtain ⟨a, len, cap, rfl⟩ := okWide_slice ht hv
  obtain ⟨fuel, hf⟩ := h
  exact open_cells ht hC (by simpa [Value.cells] using hf)

/-- A row of cells, each of which opens to some a : the row of these. -/
theorem row_choose {α : Type} [Inhabited α] {F : α → Value → Prop} {s : Option Addr} {len : Nat} (G : Value → Prop) (hG : ∀ v, G v → ∃ a, F a v) (h : 0 < len → ∃ p, s = some p ∧ ∀ i, i < len → ∃ v, w.cell? (p.add i) = some v ∧ G v) :
    ∃ l : List α, l.length = len ∧ ∃ vs : List Value, vs.length = len ∧ Hp.RdV w s vs ∧ ∀ (i : Nat) (h1 : i < l.length) (h2 : i < vs.length), F l[i] vs[i] := by
  by_cases h0 : 0 < len
  · obtain ⟨p, rfl, hc⟩ := h h0
    have key : ∀ i : Nat, ∃ u : α × Value, i < len → w.cell? (p.add i) = some u.2 ∧ F u.1 u.2 := by
      intro i
      by_cases hi : i < len
      · obtain ⟨v, hv, hg⟩ := hc i hi
        obtain ⟨a, ha⟩ := hG v hg
        exact ⟨(a, v), fun _ => ⟨hv, ha⟩⟩
      · exact ⟨(default, default), fun h => absurd h hi⟩
    refine ⟨(List.range len).map fun i => (key i).choose.1, by simp, (List.range len).map fun i => (key i).choose.2, by simp, fun _ => ⟨p, rfl, fun i v hv => ?_⟩, fun i h1 h2 => ?_⟩
    · have hi : i < len := by have := (List.getElem?_eq_some_iff.1 hv).1; simpa using this
      rw [List.getElem?_map, List.getElem?_range hi] at hv
      simp only [Option.map_some, Option.some.injEq] at hv
      rw [← hv]
      exact ((key i).choose_spec hi).1
    · simp at h1
      rw [List.getElem_map, List.getElem_map, List.getElem_range]
      exact ((key i).choose_spec h1).2
  · obtain rfl : len = 0 := by omega
    exact ⟨[], rfl, [], rfl, Hp.RdV.nil _ _, fun i h1 => by simp at h1⟩

/-- A slice of numbers of kind k. -/
theorem open_nums {base n : Nat} {t e : TypeId} {k : IntKind} {x : Value} {y : DataW H × List MemPlace} (ht : P.underlying t = some (.slice e)) (he : P.underlying e = some (.int k)) (hC : P.cellsOf e = 1) (h : DataW.trod enc P w base spare held n t [x] = some y) :
    ∃ (s : Option Addr) (zs : List Int) (cap : Nat), x = .slice s zs.length cap ∧ Hp.RdV w s (zs.map (Value.int k)) ∧ (∀ z ∈ zs, (Lit.int k z).wf = true) ∧ (s = none → zs.length = 0 ∧ cap = 0) ∧ zs.length ≤ cap ∧ cap ≤ maxLen := by
  obtain ⟨s, len, cap, rfl, hl, hm, hn, hc⟩ := open_cells ht hC h
  obtain ⟨zs, hz, vs, hv, hr, hf⟩ := row_choose (w := w) (s := s) (len := len) (α := Int) (F := fun a v => v = .int k a ∧ (Lit.int k a).wf = true) (fun v => ∃ (z : DataW H × List MemPlace) (m : Nat), DataW.trod enc P w base spare held m e [v] = some z) (by
    rintro v ⟨z, m, hz⟩
    obtain ⟨a, ha, _, hw⟩ := DataW.trod_int he hz
    exact ⟨a, by simpa using ha, hw⟩) (fun h0 => by
    obtain ⟨p, hp, hc⟩ := hc h0
    exact ⟨p, hp, fun i hi => by obtain ⟨v, z, m, h1, h2⟩ := hc i hi; exact ⟨v, h1, z, m, h2⟩⟩)
  have e : vs = zs.map (Value.int k) := List.ext_getElem (by simp [hz, hv]) (fun i h1 h2 => by
    have := (hf i (by simpa using h2) h1).1
    simpa using this)
  subst e
  refine ⟨s, zs, cap, by rw [hz], hr, fun z hzm => ?_, by rw [hz]; exact hn, by rw [hz]; exact hl, hm⟩
  obtain ⟨i, hi, rfl⟩ := List.getElem_of_mem hzm
  exact (hf i hi (by simpa using hi)).2
theorem open_numsv {r : Reach} {b0 base : Nat} {t e : TypeId} {k : IntKind} {v : Value} {d : DataW H} {p : List MemPlace} (ht : P.underlying t = some (.slice e)) (he : P.underlying e = some (.int k)) (hC : P.cellsOf e = 1) (hv : Value.okWide P w r b0 t v) (h : DataW.Trod enc P w base spare held t v d p) :
    ∃ (s : Option Addr) (zs : List Int) (cap : Nat), v = .slice s zs.length cap ∧ Hp.RdV w s (zs.map (Value.int k)) ∧ (∀ z ∈ zs, (Lit.int k z).wf = true) ∧ (s = none → zs.length = 0 ∧ cap = 0) ∧ zs.length ≤ cap ∧ cap ≤ maxLen := by
  obtain ⟨a, len, cap, rfl⟩ := okWide_slice ht hv
  obtain ⟨fuel, hf⟩ := h
  exact open_nums ht he hC (by simpa [Value.cells] using hf)
end

end Go.Proofs.YtfcffglgkblidaaDoor

/-
  Slices of structs, opened: the row's cells, flat.
-/
namespace Go.Proofs.YtfcffglgkblidaaDoor
open Go.ChangeShapes Go.WideShapes Go.RowKit Go.Deep
set_option linter.unusedVariables false

theorem flat_get {α : Type} {enc : α → List Value} {size : Nat} (hsz : ∀ a, (enc a).length = size) : ∀ (l : List α) (k : Nat) (v : Value), (l.flatMap enc)[k]? = some v → ∃ (i j : Nat) (h : i < l.length), k = i * size + j ∧ (enc l[i])[j]? = some v := by
  intro l
  induction l with
  | nil => intro k v h; simp at h
  | cons a l ih =>
    intro k v h
    rw [List.flatMap_cons] at h
    by_cases hk : k < size
    · rw [List.getElem?_append_left (by rw [hsz]; exact hk)] at h
      exact ⟨0, k, by simp, by omega, h⟩
    · rw [List.getElem?_append_right (by rw [hsz]; omega), hsz] at h
      obtain ⟨i, j, hi, hk2, hv⟩ := ih _ _ h
      exact ⟨i + 1, j, by simpa using hi, by rw [Nat.add_mul, Nat.one_mul]; omega, hv⟩

/-- Cells behind an address that are the rows of some l. -/
theorem rows_choose {w : World} {α : Type} [Inhabited α] {enc : α → List Value} {size : Nat} {G : α → Prop} {s : Option Addr} {len : Nat} (hsz : ∀ a, (enc a).length = size)
    (h : 0 < len → ∃ p, s = some p ∧ ∀ i, i < len → ∃ a, G a ∧ ∀ (j : Nat) (v : Value), (enc a)[j]? = some v → w.cell? ((p.add (i * size)).add j) = some v) :
    ∃ l : List α, l.length = len ∧ Hp.RdV w s (l.flatMap enc) ∧ ∀ a ∈ l, G a := by
  by_cases h0 : 0 < len
  · obtain ⟨p, rfl, hc⟩ := h h0
    have key : ∀ i : Nat, ∃ a : α, i < len → G a ∧ ∀ (j : Nat) (v : Value), (enc a)[j]? = some v → w.cell? ((p.add (i * size)).add j) = some v := by
      intro i
      by_cases hi : i < len
      · obtain ⟨a, ha⟩ := hc i hi
        exact ⟨a, fun _ => ha⟩
      · exact ⟨default, fun h => absurd h hi⟩
    refine ⟨(List.range len).map fun i => (key i).choose, by simp, fun _ => ⟨p, rfl, fun k v hv => ?_⟩, fun a ha => ?_⟩
    · obtain ⟨i, j, hi, hk, hv2⟩ := flat_get hsz _ _ _ hv
      have hi' : i < len := by simpa using hi
      rw [List.getElem_map, List.getElem_range] at hv2
      have := ((key i).choose_spec hi').2 j v hv2
      rw [add_add] at this
      rw [hk]; exact this
    · obtain ⟨i, hi, rfl⟩ := List.mem_map.1 ha
      exact ((key i).choose_spec (List.mem_range.1 hi)).1
  · obtain rfl : len = 0 := by omega
    exact ⟨[], rfl, Hp.RdV.nil _ _, fun a ha => by cases ha⟩

section
variable {H : Type} {enc : TypeId × Value → H} {P : Program} {w : World} {spare : Nat → Bool} {held : Bool}
/-- A slice of structs whose fields are one cell each: of each element, each field's cell and its reading. -/
theorem open_rows {base n : Nat} {t e : TypeId} {fs : Array Field} {x : Value} {y : DataW H × List MemPlace} (ht : P.underlying t = some (.slice e)) (he : P.underlying e = some (.struct fs)) (hone : oneCellFields P fs = true) (hC : P.cellsOf e = fs.size)
    (h : DataW.trod enc P w base spare held n t [x] = some y) : ∃ (s : Option Addr) (len cap : Nat), x = .slice s len cap ∧ len ≤ cap ∧ cap ≤ maxLen ∧ (s = none → len = 0 ∧ cap = 0) ∧
      (0 < len → ∃ p, s = some p ∧ ∀ i, i < len → ∀ (j : Nat) (f : Field), fs[j]? = some f → ∃ (v : Value) (z : DataW H × List MemPlace) (m : Nat), w.cell? ((p.add (i * fs.size)).add j) = some v ∧ DataW.trod enc P w base spare held m f.type [v] = some z) := by
  rcases DataW.trod_slice ht h with ⟨hx, _⟩ | ⟨a, len, cap, elems, rest, m, _, hx, _, _, hl, hm, hlen, hin, _, _⟩
  · exact ⟨none, 0, 0, by simpa using hx, by simp, by simp [maxLen], fun _ => ⟨rfl, rfl⟩, fun h => by omega⟩
  · refine ⟨some a, len, cap, by simpa using hx, hl, hm, (fun h => by cases h), fun _ => ⟨a, rfl, fun i hi j f hj => ?_⟩⟩
    have h1 := hin i hi
    rw [List.getElem?_eq_getElem (by omega)] at h1
    obtain ⟨cs, hc, h2⟩ := Option.bind_eq_some_iff.1 h1
    rw [hC] at hc
    obtain ⟨ys, m', _, _, hlen', hyl, hf⟩ := DataW.trod_struct he h2
    obtain ⟨_, hcl, hat⟩ := World.cells?_some hc
    obtain ⟨ho, hk⟩ := hone_of hone j f hj
    have hjl : j < fs.size := (Array.getElem?_eq_some_iff.1 hj).1
    have h3 := hf j f hj
    rw [ho, hk] at h3
    have e : (cs.drop j).take 1 = [cs[j]'(by omega)] := by rw [List.drop_eq_getElem_cons (by omega)]; rfl
    rw [e] at h3
    have hys : ys[j]? = some (ys[j]'(by omega)) := List.getElem?_eq_getElem (by omega)
    exact ⟨cs[j]'(by omega), _, _, by rw [hat j hjl]; exact List.getElem?_eq_getElem (by omega), h3.trans hys⟩
theorem trod_field {base n : Nat} {t : TypeId} {fs : Array Field} {cs : List Value} {x : DataW H × List MemPlace} (ht : P.underlying t = some (.struct fs)) (h : DataW.trod enc P w base spare held n t cs = some x) (j : Nat) (f : Field) (hj : fs[j]? = some f) :
    ∃ (y : DataW H × List MemPlace) (m : Nat), DataW.trod enc P w base spare held m f.type ((cs.drop f.offset).take (P.cellsOf f.type)) = some y := by
  obtain ⟨xs, m, _, _, hl, hlen, hf⟩ := DataW.trod_struct ht h
  have hjl : j < fs.size := (Array.getElem?_eq_some_iff.1 hj).1
  exact ⟨xs[j]'(by omega), m, (hf j f hj).trans (List.getElem?_eq_getElem (by omega))⟩
theorem trod_len {base n : Nat} {t : TypeId} {fs : Array Field} {cs : List Value} {x : DataW H × List MemPlace} (ht : P.underlying t = some (.struct fs)) (h : DataW.trod enc P w base spare held n t cs = some x) : cs.length = P.cellsOf t := by
  obtain ⟨xs, m, _, _, hl, hlen, hf⟩ := DataW.trod_struct ht h
  exact hl
/-- A slice: the cells of each element, and their reading. -/
theorem open_rowsG {base n : Nat} {t e : TypeId} {x : Value} {y : DataW H × List MemPlace} (ht : P.underlying t = some (.slice e)) (h : DataW.trod enc P w base spare held n t [x] = some y) : ∃ (s : Option Addr) (len cap : Nat), x = .slice s len cap ∧ len ≤ cap ∧ cap ≤ maxLen ∧ (s = none → len = 0 ∧ cap = 0) ∧
      (0 < len → ∃ p, s = some p ∧ ∀ i, i < len → ∃ (cs : List Value) (z : DataW H × List MemPlace) (m : Nat), (∀ (j : Nat) (v : Value), cs[j]? = some v → w.cell? ((p.add (i * P.cellsOf e)).add j) = some v) ∧ DataW.trod enc P w base spare held m e cs = some z) := by
  rcases DataW.trod_slice ht h with ⟨hx, _⟩ | ⟨a, len, cap, elems, rest, m, _, hx, _, _, hl, hm, hlen, hin, _, _⟩
  · exact ⟨none, 0, 0, by simpa using hx, by simp, by simp [maxLen], fun _ => ⟨rfl, rfl⟩, fun h => by omega⟩
  · refine ⟨some a, len, cap, by simpa using hx, hl, hm, (fun h => by cases h), fun _ => ⟨a, rfl, fun i hi => ?_⟩⟩
    have h1 := hin i hi
    rw [List.getElem?_eq_getElem (by omega)] at h1
    obtain ⟨cs, hc, h2⟩ := Option.bind_eq_some_iff.1 h1
    obtain ⟨_, hcl, hat⟩ := World.cells?_some hc
    refine ⟨cs, _, m, fun j v hv => ?_, h2⟩
    have hj := (List.getElem?_eq_some_iff.1 hv).1
    rw [hat j (by omega)]; exact hv
/-- A slice of which only its header is wanted. -/
theorem open_hdr {base n : Nat} {t e : TypeId} {x : Value} {y : DataW H × List MemPlace} (ht : P.underlying t = some (.slice e)) (h : DataW.trod enc P w base spare held n t [x] = some y) :
    ∃ (s : Option Addr) (len cap : Nat), x = .slice s len cap ∧ len ≤ cap ∧ cap ≤ maxLen ∧ (s = none → len = 0 ∧ cap = 0) := by
  rcases DataW.trod_slice ht h with ⟨hx, _⟩ | ⟨a, len, cap, elems, rest, m, _, hx, _, _, hl, hm, hlen, hin, _, _⟩
  · exact ⟨none, 0, 0, by simpa using hx, by simp, by simp [maxLen], fun _ => ⟨rfl, rfl⟩⟩
  · exact ⟨some a, len, cap, by simpa using hx, hl, hm, fun h => by cases h⟩
/-- A slice by value: what its reading says, of its own cell. -/
theorem trod_sv {r : Reach} {b0 base : Nat} {t e : TypeId} {v : Value} {d : DataW H} {p : List MemPlace} (ht : P.underlying t = some (.slice e)) (hv : Value.okWide P w r b0 t v) (h : DataW.Trod enc P w base spare held t v d p) :
    ∃ (n : Nat) (y : DataW H × List MemPlace), DataW.trod enc P w base spare held n t [v] = some y := by
  obtain ⟨a, len, cap, rfl⟩ := okWide_slice ht hv
  obtain ⟨fuel, hf⟩ := h
  exact ⟨fuel, _, by simpa [Value.cells] using hf⟩
end
theorem wf_u8 {a : Int} (h : (Lit.int .u8 a).wf = true) : 0 ≤ a ∧ a ≤ 255 := by
  simpa [Lit.wf, IntKind.min, IntKind.max, IntKind.signed, IntKind.bits] using h

end Go.Proofs.YtfcffglgkblidaaDoor

/-
  Arrays of numbers, opened; a struct's fields, each a row of cells.
-/
namespace Go.Proofs.YtfcffglgkblidaaDoor
open Go.ChangeShapes Go.WideShapes Go.RowKit Go.Deep
set_option linter.unusedVariables false

section
variable {H : Type} {enc : TypeId × Value → H} {P : Program} {w : World} {spare : Nat → Bool} {held : Bool}
/-- An array of numbers. -/
theorem trod_nums {base n len : Nat} {t e : TypeId} {k : IntKind} {cs : List Value} {y : DataW H × List MemPlace} (ht : P.underlying t = some (.array len e)) (he : P.underlying e = some (.int k)) (hC : P.cellsOf e = 1) (hT : P.cellsOf t = len)
    (h : DataW.trod enc P w base spare held n t cs = some y) : ∃ zs : List Int, cs = zs.map (Value.int k) ∧ zs.length = len ∧ (∀ z ∈ zs, (Lit.int k z).wf = true) ∧ y.1 = .agg (zs.map fun z => .lit (.int k z)) := by
  obtain ⟨xs, m, _, hy, hlen, hxl, hel⟩ := DataW.trod_array ht h
  rw [hT] at hlen
  have key : ∀ i : Nat, i < len → ∃ z : Int, cs[i]? = some (.int k z) ∧ (Lit.int k z).wf = true ∧ (xs[i]?).map (·.1) = some (.lit (.int k z)) := by
    intro i hi
    have h1 := hel i hi
    rw [hC, Nat.mul_one] at h1
    have e1 : (cs.drop i).take 1 = [cs[i]'(by omega)] := by rw [List.drop_eq_getElem_cons (by omega)]; rfl
    rw [e1, List.getElem?_eq_getElem (show i < xs.length by omega)] at h1
    obtain ⟨z, e2, e3, hw⟩ := DataW.trod_int he h1
    simp only [List.cons.injEq, and_true] at e2
    exact ⟨z, by rw [List.getElem?_eq_getElem (by omega), e2], hw, by rw [List.getElem?_eq_getElem (show i < xs.length by omega), e3]; rfl⟩
  have sel : ∀ i : Nat, ∃ z : Int, i < len → cs[i]? = some (.int k z) ∧ (Lit.int k z).wf = true ∧ (xs[i]?).map (·.1) = some (.lit (.int k z)) := by
    intro i
    by_cases hi : i < len
    · obtain ⟨z, hz⟩ := key i hi; exact ⟨z, fun _ => hz⟩
    · exact ⟨0, fun h => absurd h hi⟩
  refine ⟨(List.range len).map fun i => (sel i).choose, ?_, by simp, ?_, ?_⟩
  · apply List.ext_getElem?
    intro i
    by_cases hi : i < len
    · rw [((sel i).choose_spec hi).1]; simp [hi]
    · rw [List.getElem?_eq_none (by omega), List.getElem?_eq_none (by simp; omega)]
  · intro z hz
    obtain ⟨i, hi, rfl⟩ := List.mem_map.1 hz
    exact ((sel i).choose_spec (List.mem_range.1 hi)).2.1
  · rw [hy]
    show DataW.agg _ = DataW.agg _
    congr 1
    apply List.ext_getElem?
    intro i
    by_cases hi : i < len
    · rw [List.getElem?_map, ((sel i).choose_spec hi).2.2]; simp [hi]
    · rw [List.getElem?_eq_none (by simp; omega), List.getElem?_eq_none (by simp; omega)]
theorem okWide_arr {r : Reach} {b0 len : Nat} {t e : TypeId} {v : Value} (ht : P.underlying t = some (.array len e)) (hv : Value.okWide P w r b0 t v) : ∃ cs, v = .agg cs := by
  unfold Value.okWide at hv
  cases v <;> simp_all
theorem open_arr {r : Reach} {b0 base len : Nat} {t e : TypeId} {k : IntKind} {v : Value} {d : DataW H} {p : List MemPlace} (ht : P.underlying t = some (.array len e)) (he : P.underlying e = some (.int k)) (hC : P.cellsOf e = 1) (hT : P.cellsOf t = len)
    (hv : Value.okWide P w r b0 t v) (h : DataW.Trod enc P w base spare held t v d p) : ∃ zs : List Int, v = .agg (zs.map (Value.int k)).toArray ∧ zs.length = len ∧ ∀ z ∈ zs, (Lit.int k z).wf = true := by
  obtain ⟨cs, rfl⟩ := okWide_arr ht hv
  obtain ⟨fuel, hf⟩ := h
  obtain ⟨zs, e1, e2, e3, _⟩ := trod_nums ht he hC hT hf
  refine ⟨zs, ?_, e2, e3⟩
  rw [← e1]; rfl
end
theorem wf_u8' {a : Int} (h : (Lit.int .u8 a).wf = true) : 0 ≤ a ∧ a ≤ 255 := by simpa [Lit.wf, IntKind.min, IntKind.max, IntKind.signed, IntKind.bits] using h
/-- Numbers that are bytes. -/
theorem nums_bytes : ∀ (zs : List Int), (∀ z ∈ zs, (Lit.int .u8 z).wf = true) → ∃ l : List UInt8, l.length = zs.length ∧ zs.map (Value.int .u8) = bcells l
  | [], _ => ⟨[], rfl, rfl⟩
  | z :: r, h => by
    obtain ⟨l, h1, h2⟩ := nums_bytes r (fun x hx => h x (by simp [hx]))
    have hz := wf_u8' (h z (by simp))
    refine ⟨UInt8.ofNat z.toNat :: l, by simp [h1], ?_⟩
    rw [List.map_cons, h2]
    have : ((UInt8.ofNat z.toNat).toNat : Int) = z := by simp; omega
    show _ = Value.int .u8 ((UInt8.ofNat z.toNat).toNat : Int) :: bcells l
    rw [this]
end Go.Proofs.YtfcffglgkblidaaDoor
