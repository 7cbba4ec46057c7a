
/-
  Slices of structs, opened: the row's cells, flat.
-/
import Derived.Test.YtkjmhnbijbpmkaaDoorOpenH
namespace Go.Proofs.YtkjmhnbijbpmkaaDoor
open Go.ChangeShapes Go.WideShapes Go.RowKit Go.Deep
set_option linter.unusedVariables false

theorem flat_get {α : Type} {enc : α → List Value} {size : Nat} (hsz : ∀ a, (enc a).length = size) : ∀ (l : List α) (k : Nat) (v : Value), (l.flatMap enc)[k]? = some v → ∃ (i j : Nat) (h : i < l.length), k = i * size + j ∧ (enc l[i])[j]? = some v := by
  intro l
  induction l with
  | nil => intro k v h; simp at h
  | cons a l ih =>
    intro k v h
    rw [List.flatMap_cons] at h
    by_cases hk : k < size
    · rw [List.getElem?_append_left (by rw [hsz]; exact hk)] at h
      exact ⟨0, k, by simp, by omega, h⟩
    · rw [List.getElem?_append_right (by rw [hsz]; omega), hsz] at h
      obtain ⟨i, j, hi, hk2, hv⟩ := ih _ _ h
      exact ⟨i + 1, j, by simpa using hi, by rw [Nat.add_mul, Nat.one_mul]; omega, hv⟩

/-- Cells behind an address that are the rows of some l. -/
theorem rows_choose {w : World} {α : Type} [Inhabited α] {enc : α → List Value} {size : Nat} {G : α → Prop} {s : Option Addr} {len : Nat} (hsz : ∀ a, (enc a).length = size)
    (h : 0 < len → ∃ p, s = some p ∧ ∀ i, i < len → ∃ a, G a ∧ ∀ (j : Nat) (v : Value), (enc a)[j]? = some v → w.cell? ((p.add (i * size)).add j) = some v) :
    ∃ l : List α, l.length = len ∧ Hp.RdV w s (l.flatMap enc) ∧ ∀ a ∈ l, G a := by
  by_cases h0 : 0 < len
  · obtain ⟨p, rfl, hc⟩ := h h0
    have key : ∀ i : Nat, ∃ a : α, i < len → G a ∧ ∀ (j : Nat) (v : Value), (enc a)[j]? = some v → w.cell? ((p.add (i * size)).add j) = some v := by
      intro i
      by_cases hi : i < len
      · obtain ⟨a, ha⟩ := hc i hi
        exact ⟨a, fun _ => ha⟩
      · exact ⟨default, fun h => absurd h hi⟩
    refine ⟨(List.range len).map fun i => (key i).choose, by simp, fun _ => ⟨p, rfl, fun k v hv => ?_⟩, fun a ha => ?_⟩
    · obtain ⟨i, j, hi, hk, hv2⟩ := flat_get hsz _ _ _ hv
      have hi' : i < len := by simpa using hi
      rw [List.getElem_map, List.getElem_range] at hv2
      have := ((key i).choose_spec hi').2 j v hv2
      rw [add_add] at this
      rw [hk]; exact this
    · obtain ⟨i, hi, rfl⟩ := List.mem_map.1 ha
      exact ((key i).choose_spec (List.mem_range.1 hi)).1
  · obtain rfl : len = 0 := by omega
    exact ⟨[], rfl, Hp.RdV.nil _ _, fun a ha => by cases ha⟩

section
variable {H : Type} {enc : TypeId × Value → H} {P : Program} {w : World} {spare : Nat → Bool} {held : Bool}
/-- A slice of structs whose fields are one cell each: of each element, each field's cell and its reading. -/
theorem open_rows {base n : Nat} {t e : TypeId} {fs : Array Field} {x : Value} {y : DataW H × List MemPlace} (ht : P.underlying t = some (.slice e)) (he : P.underlying e = some (.struct fs)) (hone : oneCellFields P fs = true) (hC : P.cellsOf e = fs.size)
    (h : DataW.trod enc P w base spare held n t [x] = some y) : ∃ (s : Option Addr) (len cap : Nat), x = .slice s len cap ∧ len ≤ cap ∧ cap ≤ maxLen ∧ (s = none → len = 0 ∧ cap = 0) ∧
      (0 < len → ∃ p, s = some p ∧ ∀ i, i < len → ∀ (j : Nat) (f : Field), fs[j]? = some f → ∃ (v : Value) (z : DataW H × List MemPlace) (m : Nat), w.cell? ((p.add (i * fs.size)).add j) = some v ∧ DataW.trod enc P w base spare held m f.type [v] = some z) := by
  rcases DataW.trod_slice ht h with ⟨hx, _⟩ | ⟨a, len, cap, elems, rest, m, _, hx, _, _, hl, hm, hlen, hin, _, _⟩
  · exact ⟨none, 0, 0, by simpa using hx, by simp, by simp [maxLen], fun _ => ⟨rfl, rfl⟩, fun h => by omega⟩
  · refine ⟨some a, len, cap, by simpa using hx, hl, hm, (fun h => by cases h), fun _ => ⟨a, rfl, fun i hi j f hj => ?_⟩⟩
    have h1 := hin i hi
    rw [List.getElem?_eq_getElem (by omega)] at h1
    obtain ⟨cs, hc, h2⟩ := Option.bind_eq_some_iff.1 h1
    rw [hC] at hc
    obtain ⟨ys, m', _, _, hlen', hyl, hf⟩ := DataW.trod_struct he h2
    obtain ⟨_, hcl, hat⟩ := World.cells?_some hc
    obtain ⟨ho, hk⟩ := hone_of hone j f hj
    have hjl : j < fs.size := (Array.getElem?_eq_some_iff.1 hj).1
    have h3 := hf j f hj
    rw [ho, hk] at h3
    have e : (cs.drop j).take 1 = [cs[j]'(by omega)] := by rw [List.drop_eq_getElem_cons (by omega)]; rfl
    rw [e] at h3
    have hys : ys[j]? = some (ys[j]'(by omega)) := List.getElem?_eq_getElem (by omega)
    exact ⟨cs[j]'(by omega), _, _, by rw [hat j hjl]; exact List.getElem?_eq_getElem (by omega), h3.trans hys⟩
theorem trod_field {base n : Nat} {t : TypeId} {fs : Array Field} {cs : List Value} {x : DataW H × List MemPlace} (ht : P.underlying t = some (.struct fs)) (h : DataW.trod enc P w base spare held n t cs = some x) (j : Nat) (f : Field) (hj : fs[j]? = some f) :
    ∃ (y : DataW H × List MemPlace) (m : Nat), DataW.trod enc P w base spare held m f.type ((cs.drop f.offset).take (P.cellsOf f.type)) = some y := by
  obtain ⟨xs, m, _, _, hl, hlen, hf⟩ := DataW.trod_struct ht h
  have hjl : j < fs.size := (Array.getElem?_eq_some_iff.1 hj).1
  exact ⟨xs[j]'(by omega), m, (hf j f hj).trans (List.getElem?_eq_getElem (by omega))⟩
theorem trod_len {base n : Nat} {t : TypeId} {fs : Array Field} {cs : List Value} {x : DataW H × List MemPlace} (ht : P.underlying t = some (.struct fs)) (h : DataW.trod enc P w base spare held n t cs = some x) : cs.length = P.cellsOf t := by
  obtain ⟨xs, m, _, _, hl, hlen, hf⟩ := DataW.trod_struct ht h
  exact hl
/-- A slice: the cells of each element, and their reading. -/
theorem open_rowsG {base n : Nat} {t e : TypeId} {x : Value} {y : DataW H × List MemPlace} (ht : P.underlying t = some (.slice e)) (h : DataW.trod enc P w base spare held n t [x] = some y) : ∃ (s : Option Addr) (len cap : Nat), x = .slice s len cap ∧ len ≤ cap ∧ cap ≤ maxLen ∧ (s = none → len = 0 ∧ cap = 0) ∧
      (0 < len → ∃ p, s = some p ∧ ∀ i, i < len → ∃ (cs : List Value) (z : DataW H × List MemPlace) (m : Nat), (∀ (j : Nat) (v : Value), cs[j]? = some v → w.cell? ((p.add (i * P.cellsOf e)).add j) = some v) ∧ DataW.trod enc P w base spare held m e cs = some z) := by
  rcases DataW.trod_slice ht h with ⟨hx, _⟩ | ⟨a, len, cap, elems, rest, m, _, hx, _, _, hl, hm, hlen, hin, _, _⟩
  · exact ⟨none, 0, 0, by simpa using hx, by simp, by simp [maxLen], fun _ => ⟨rfl, rfl⟩, fun h => by omega⟩
  · refine ⟨some a, len, cap, by simpa using hx, hl, hm, (fun h => by cases h), fun _ => ⟨a, rfl, fun i hi => ?_⟩⟩
    have h1 := hin i hi
    rw [List.getElem?_eq_getElem (by omega)] at h1
    obtain ⟨cs, hc, h2⟩ := Option.bind_eq_some_iff.1 h1
    obtain ⟨_, hcl, hat⟩ := World.cells?_some hc
    refine ⟨cs, _, m, fun j v hv => ?_, h2⟩
    have hj := (List.getElem?_eq_some_iff.1 hv).1
    rw [hat j (by omega)]; exact hv
/-- A slice of which only its header is wanted. -/
theorem open_hdr {base n : Nat} {t e : TypeId} {x : Value} {y : DataW H × List MemPlace} (ht : P.underlying t = some (.slice e)) (h : DataW.trod enc P w base spare held n t [x] = some y) :
    ∃ (s : Option Addr) (len cap : Nat), x = .slice s len cap ∧ len ≤ cap ∧ cap ≤ maxLen ∧ (s = none → len = 0 ∧ cap = 0) := by
  rcases DataW.trod_slice ht h with ⟨hx, _⟩ | ⟨a, len, cap, elems, rest, m, _, hx, _, _, hl, hm, hlen, hin, _, _⟩
  · exact ⟨none, 0, 0, by simpa using hx, by simp, by simp [maxLen], fun _ => ⟨rfl, rfl⟩⟩
  · exact ⟨some a, len, cap, by simpa using hx, hl, hm, fun h => by cases h⟩
/-- A slice by value: what its reading says, of its own cell. -/
theorem trod_sv {r : Reach} {b0 base : Nat} {t e : TypeId} {v : Value} {d : DataW H} {p : List MemPlace} (ht : P.underlying t = some (.slice e)) (hv : Value.okWide P w r b0 t v) (h : DataW.Trod enc P w base spare held t v d p) :
    ∃ (n : Nat) (y : DataW H × List MemPlace), DataW.trod enc P w base spare held n t [v] = some y := by
  obtain ⟨a, len, cap, rfl⟩ := okWide_slice ht hv
  obtain ⟨fuel, hf⟩ := h
  exact ⟨fuel, _, by simpa [Value.cells] using hf⟩
end
theorem wf_u8 {a : Int} (h : (Lit.int .u8 a).wf = true) : 0 ≤ a ∧ a ≤ 255 := by
  simpa [Lit.wf, IntKind.min, IntKind.max, IntKind.signed, IntKind.bits] using h

end Go.Proofs.YtkjmhnbijbpmkaaDoor
