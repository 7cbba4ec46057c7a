/-
  Arguments opened: structs by value, slices of numbers.
-/
import Derived.Test.YtkcpmghlndnfbaaInts
import Derived.Test.YtkcpmghlndnfbaaFrame
import Derived.Deep.Fields
import Derived.ChangeArms
namespace Go.Proofs.Ytkcpmghlndnfbaa
open Go.ChangeShapes Go.WideShapes Go.RowKit Go.Deep
set_option linter.unusedVariables false

section
variable {H : Type} {enc : TypeId × Value → H} {P : Program} {w : World} {spare : Nat → Bool} {held : Bool}

/-- A struct by value whose fields are one cell each: each field's value with its reading. -/
theorem open_fields {r : Reach} {b0 : Nat} {base : Nat} {t : TypeId} {fs : Array Field} {v : Value} {d : DataW H} {p : List MemPlace} (hs : P.underlying t = some (.struct fs)) (hone : oneCellFields P fs = true) (hC : P.cellsOf t = fs.size)
    (hv : Value.okWide P w r b0 t v) (h : DataW.Trod enc P w base spare held t v d p) :
    ∃ cs : Array Value, v = .agg cs ∧ cs.size = fs.size ∧ ∀ (j : Nat) (f : Field), fs[j]? = some f → ∃ (x : Value) (y : DataW H × List MemPlace) (n : Nat), cs[j]? = some x ∧ DataW.trod enc P w base spare held n f.type [x] = some y := by
  obtain ⟨cs, rfl, hsz⟩ := okWide_struct hs hv
  obtain ⟨fuel, hf⟩ := h
  obtain ⟨ys, n, _, _, hlen, hyl, hg⟩ := DataW.trod_struct hs hf
  refine ⟨cs, rfl, hsz.trans hC, fun j f hj => ?_⟩
  obtain ⟨ho, hk⟩ := hone_of hone j f hj
  have hjl : j < fs.size := (Array.getElem?_eq_some_iff.1 hj).1
  have h1 := hg j f hj
  have hcl : j < cs.toList.length := by rw [Array.length_toList, hsz, hC]; exact hjl
  have e : ((Value.agg cs).cells.toList.drop f.offset).take (P.cellsOf f.type) = [cs.toList[j]] := by
    rw [ho, hk]
    show (cs.toList.drop j).take 1 = _
    rw [List.drop_eq_getElem_cons hcl]; rfl
  rw [e] at h1
  have hys : ys[j]? = some (ys[j]'(by omega)) := List.getElem?_eq_getElem (by omega)
  exact ⟨_, _, n, by rw [← Array.getElem?_toList]; exact List.getElem?_eq_getElem hcl, h1.trans hys⟩

/-- A slice of numbers, of one cell that reads as such. -/
theorem open_rd {base n : Nat} {t e : TypeId} {k : IntKind} {x : Value} {y : DataW H × List MemPlace} (ht : P.underlying t = some (.slice e)) (he : P.underlying e = some (.int k)) (hc : P.cellsOf e = 1)
    (h : DataW.trod enc P w base spare held n t [x] = some y) : ∃ (s : Option Addr) (zs : List Int) (cap : Nat), x = .slice s zs.length cap ∧ Rd w k s zs ∧ (∀ z ∈ zs, (Lit.int k z).wf = true) ∧ zs.length ≤ cap ∧ cap ≤ maxLen ∧ (s = none → cap = 0) := by
  rcases open_ints ht he hc h with ⟨hx, _⟩ | ⟨a, len, cap, zs, hx, hb, hlc, hcm, hlen, _, hcell, hwf⟩
  · exact ⟨none, [], 0, by simpa using hx, Rd.nil _ _ _, by simp, by simp, by simp [maxLen], fun _ => rfl⟩
  · have hle : len ≤ zs.length := by rw [hlen]; split <;> omega
    have htl : (zs.take len).length = len := by rw [List.length_take]; omega
    refine ⟨some a, zs.take len, cap, by rw [htl]; simpa using hx, fun _ => ⟨a, rfl, fun i z hz => ?_⟩, fun z hz => hwf z (List.mem_of_mem_take hz), by rw [htl]; exact hlc, hcm, fun h => by cases h⟩
    have hi : i < len := by have := (List.getElem?_eq_some_iff.1 hz).1; omega
    rw [hcell i (by omega)]
    rw [List.getElem?_take, if_pos hi] at hz
    simp [List.getD, hz]

/-- A slice of structs whose fields are one cell each: of each element, each field's cell and its reading. -/
theorem open_rows {base n : Nat} {t e : TypeId} {fs : Array Field} {x : Value} {y : DataW H × List MemPlace} (ht : P.underlying t = some (.slice e)) (he : P.underlying e = some (.struct fs)) (hone : oneCellFields P fs = true) (hC : P.cellsOf e = fs.size)
    (h : DataW.trod enc P w base spare held n t [x] = some y) : ∃ (s : Option Addr) (len cap : Nat), x = .slice s len cap ∧ len ≤ cap ∧ cap ≤ maxLen ∧ (s = none → cap = 0) ∧
      (0 < len → ∃ p, s = some p ∧ ∀ i, i < len → ∀ (j : Nat) (f : Field), fs[j]? = some f → ∃ (v : Value) (z : DataW H × List MemPlace) (m : Nat), w.cell? ((p.add (i * fs.size)).add j) = some v ∧ DataW.trod enc P w base spare held m f.type [v] = some z) := by
  rcases DataW.trod_slice ht h with ⟨hx, _⟩ | ⟨a, len, cap, elems, rest, m, _, hx, _, _, hl, hm, hlen, hin, _, _⟩
  · exact ⟨none, 0, 0, by simpa using hx, by simp, by simp [maxLen], fun _ => rfl, fun h => by omega⟩
  · refine ⟨some a, len, cap, by simpa using hx, hl, hm, (fun h => by cases h), fun _ => ⟨a, rfl, fun i hi j f hj => ?_⟩⟩
    have h1 := hin i hi
    rw [List.getElem?_eq_getElem (by omega)] at h1
    obtain ⟨cs, hc, h2⟩ := Option.bind_eq_some_iff.1 h1
    rw [hC] at hc
    obtain ⟨ys, m', _, _, hlen', hyl, hf⟩ := DataW.trod_struct he h2
    obtain ⟨_, hcl, hat⟩ := World.cells?_some hc
    obtain ⟨ho, hk⟩ := hone_of hone j f hj
    have hjl : j < fs.size := (Array.getElem?_eq_some_iff.1 hj).1
    have h3 := hf j f hj
    rw [ho, hk] at h3
    have e : (cs.drop j).take 1 = [cs[j]'(by omega)] := by rw [List.drop_eq_getElem_cons (by omega)]; rfl
    rw [e] at h3
    have hys : ys[j]? = some (ys[j]'(by omega)) := List.getElem?_eq_getElem (by omega)
    exact ⟨cs[j]'(by omega), _, _, by rw [hat j hjl]; exact List.getElem?_eq_getElem (by omega), h3.trans hys⟩

theorem open_rowsv {r : Reach} {b0 base : Nat} {t e : TypeId} {fs : Array Field} {v : Value} {d : DataW H} {p : List MemPlace} (ht : P.underlying t = some (.slice e)) (he : P.underlying e = some (.struct fs)) (hone : oneCellFields P fs = true) (hC : P.cellsOf e = fs.size)
    (hv : Value.okWide P w r b0 t v) (h : DataW.Trod enc P w base spare held t v d p) : ∃ (s : Option Addr) (len cap : Nat), v = .slice s len cap ∧ len ≤ cap ∧ cap ≤ maxLen ∧ (s = none → cap = 0) ∧
      (0 < len → ∃ p, s = some p ∧ ∀ i, i < len → ∀ (j : Nat) (f : Field), fs[j]? = some f → ∃ (v : Value) (z : DataW H × List MemPlace) (m : Nat), w.cell? ((p.add (i * fs.size)).add j) = some v ∧ DataW.trod enc P w base spare held m f.type [v] = some z) := by
  obtain ⟨a, len, cap, rfl⟩ := okWide_slice ht hv
  obtain ⟨fuel, hf⟩ := h
  exact open_rows ht he hone hC (by simpa [Value.cells] using hf)

theorem open_rdv {r : Reach} {b0 base : Nat} {t e : TypeId} {k : IntKind} {v : Value} {d : DataW H} {p : List MemPlace} (ht : P.underlying t = some (.slice e)) (he : P.underlying e = some (.int k)) (hc : P.cellsOf e = 1)
    (hv : Value.okWide P w r b0 t v) (h : DataW.Trod enc P w base spare held t v d p) : ∃ (s : Option Addr) (zs : List Int) (cap : Nat), v = .slice s zs.length cap ∧ Rd w k s zs ∧ (∀ z ∈ zs, (Lit.int k z).wf = true) ∧ zs.length ≤ cap ∧ cap ≤ maxLen ∧ (s = none → cap = 0) := by
  obtain ⟨a, len, cap, rfl⟩ := okWide_slice ht hv
  obtain ⟨fuel, hf⟩ := h
  exact open_rd ht he hc (by simpa [Value.cells] using hf)
end

theorem wf_i64 {a : Int} (h : (Lit.int .i64 a).wf = true) : -9223372036854775808 ≤ a ∧ a ≤ 9223372036854775807 := by
  simpa [Lit.wf, IntKind.min, IntKind.max, IntKind.signed, IntKind.bits] using h

end Go.Proofs.Ytkcpmghlndnfbaa
