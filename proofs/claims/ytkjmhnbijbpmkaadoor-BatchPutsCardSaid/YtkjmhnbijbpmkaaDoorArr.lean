
/-
  Arrays of numbers, opened; a struct's fields, each a row of cells.
-/
import Derived.Test.YtkjmhnbijbpmkaaDoorOpenR
import Derived.Test.YtkjmhnbijbpmkaaDoorBytes
namespace Go.Proofs.YtkjmhnbijbpmkaaDoor
open Go.ChangeShapes Go.WideShapes Go.RowKit Go.Deep
set_option linter.unusedVariables false

section
variable {H : Type} {enc : TypeId × Value → H} {P : Program} {w : World} {spare : Nat → Bool} {held : Bool}
/-- An array of numbers. -/
theorem trod_nums {base n len : Nat} {t e : TypeId} {k : IntKind} {cs : List Value} {y : DataW H × List MemPlace} (ht : P.underlying t = some (.array len e)) (he : P.underlying e = some (.int k)) (hC : P.cellsOf e = 1) (hT : P.cellsOf t = len)
    (h : DataW.trod enc P w base spare held n t cs = some y) : ∃ zs : List Int, cs = zs.map (Value.int k) ∧ zs.length = len ∧ (∀ z ∈ zs, (Lit.int k z).wf = true) ∧ y.1 = .agg (zs.map fun z => .lit (.int k z)) := by
  obtain ⟨xs, m, _, hy, hlen, hxl, hel⟩ := DataW.trod_array ht h
  rw [hT] at hlen
  have key : ∀ i : Nat, i < len → ∃ z : Int, cs[i]? = some (.int k z) ∧ (Lit.int k z).wf = true ∧ (xs[i]?).map (·.1) = some (.lit (.int k z)) := by
    intro i hi
    have h1 := hel i hi
    rw [hC, Nat.mul_one] at h1
    have e1 : (cs.drop i).take 1 = [cs[i]'(by omega)] := by rw [List.drop_eq_getElem_cons (by omega)]; rfl
    rw [e1, List.getElem?_eq_getElem (show i < xs.length by omega)] at h1
    obtain ⟨z, e2, e3, hw⟩ := DataW.trod_int he h1
    simp only [List.cons.injEq, and_true] at e2
    exact ⟨z, by rw [List.getElem?_eq_getElem (by omega), e2], hw, by rw [List.getElem?_eq_getElem (show i < xs.length by omega), e3]; rfl⟩
  have sel : ∀ i : Nat, ∃ z : Int, i < len → cs[i]? = some (.int k z) ∧ (Lit.int k z).wf = true ∧ (xs[i]?).map (·.1) = some (.lit (.int k z)) := by
    intro i
    by_cases hi : i < len
    · obtain ⟨z, hz⟩ := key i hi; exact ⟨z, fun _ => hz⟩
    · exact ⟨0, fun h => absurd h hi⟩
  refine ⟨(List.range len).map fun i => (sel i).choose, ?_, by simp, ?_, ?_⟩
  · apply List.ext_getElem?
    intro i
    by_cases hi : i < len
    · rw [((sel i).choose_spec hi).1]; simp [hi]
    · rw [List.getElem?_eq_none (by omega), List.getElem?_eq_none (by simp; omega)]
  · intro z hz
    obtain ⟨i, hi, rfl⟩ := List.mem_map.1 hz
    exact ((sel i).choose_spec (List.mem_range.1 hi)).2.1
  · rw [hy]
    show DataW.agg _ = DataW.agg _
    congr 1
    apply List.ext_getElem?
    intro i
    by_cases hi : i < len
    · rw [List.getElem?_map, ((sel i).choose_spec hi).2.2]; simp [hi]
    · rw [List.getElem?_eq_none (by simp; omega), List.getElem?_eq_none (by simp; omega)]
theorem okWide_arr {r : Reach} {b0 len : Nat} {t e : TypeId} {v : Value} (ht : P.underlying t = some (.array len e)) (hv : Value.okWide P w r b0 t v) : ∃ cs, v = .agg cs := by
  unfold Value.okWide at hv
  cases v <;> simp_all
theorem open_arr {r : Reach} {b0 base len : Nat} {t e : TypeId} {k : IntKind} {v : Value} {d : DataW H} {p : List MemPlace} (ht : P.underlying t = some (.array len e)) (he : P.underlying e = some (.int k)) (hC : P.cellsOf e = 1) (hT : P.cellsOf t = len)
    (hv : Value.okWide P w r b0 t v) (h : DataW.Trod enc P w base spare held t v d p) : ∃ zs : List Int, v = .agg (zs.map (Value.int k)).toArray ∧ zs.length = len ∧ ∀ z ∈ zs, (Lit.int k z).wf = true := by
  obtain ⟨cs, rfl⟩ := okWide_arr ht hv
  obtain ⟨fuel, hf⟩ := h
  obtain ⟨zs, e1, e2, e3, _⟩ := trod_nums ht he hC hT hf
  refine ⟨zs, ?_, e2, e3⟩
  rw [← e1]; rfl
end
theorem wf_u8' {a : Int} (h : (Lit.int .u8 a).wf = true) : 0 ≤ a ∧ a ≤ 255 := by simpa [Lit.wf, IntKind.min, IntKind.max, IntKind.signed, IntKind.bits] using h
/-- Numbers that are bytes. -/
theorem nums_bytes : ∀ (zs : List Int), (∀ z ∈ zs, (Lit.int .u8 z).wf = true) → ∃ l : List UInt8, l.length = zs.length ∧ zs.map (Value.int .u8) = bcells l
  | [], _ => ⟨[], rfl, rfl⟩
  | z :: r, h => by
    obtain ⟨l, h1, h2⟩ := nums_bytes r (fun x hx => h x (by simp [hx]))
    have hz := wf_u8' (h z (by simp))
    refine ⟨UInt8.ofNat z.toNat :: l, by simp [h1], ?_⟩
    rw [List.map_cons, h2]
    have : ((UInt8.ofNat z.toNat).toNat : Int) = z := by simp; omega
    show _ = Value.int .u8 ((UInt8.ofNat z.toNat).toNat : Int) :: bcells l
    rw [this]
end Go.Proofs.YtkjmhnbijbpmkaaDoor
