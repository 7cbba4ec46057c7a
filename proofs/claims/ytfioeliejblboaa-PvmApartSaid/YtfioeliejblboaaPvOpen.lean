/-
  The openers of layer 21: a part with its program, a machine, words.
-/
import Derived.Test.YtfioeliejblboaaArr
import Derived.Test.YtfioeliejblboaaPvPlain
namespace Go.Proofs.Ytfioeliejblboaa
open Go.ChangeShapes Go.WideShapes Go.RowKit Go.Deep
set_option linter.unusedVariables false
section
variable {H : Type} {enc : TypeId × Value → H} {w : World} {spare : Nat → Bool} {held : Bool}
theorem open_partc {r : Reach} {b0 base : Nat} {v : Value} {d : DataW H} {p : List MemPlace} (hv : Value.okWide Try.prog w r b0 24 v) (h : DataW.Trod enc Try.prog w base spare held 24 v d p) :
    ∃ a : Int × Int × Int × (Option Addr × List Int × Nat) × Int × Int, v = .agg #[.int .i64 a.1, .int .i64 a.2.1, .int .i64 a.2.2.1, .slice a.2.2.2.1.1 a.2.2.2.1.2.1.length a.2.2.2.1.2.2, .int .i64 a.2.2.2.2.1, .int .i64 a.2.2.2.2.2] ∧ (-9223372036854775808 ≤ a.1 ∧ a.1 ≤ 9223372036854775807) ∧ (-9223372036854775808 ≤ a.2.1 ∧ a.2.1 ≤ 9223372036854775807) ∧ (-9223372036854775808 ≤ a.2.2.1 ∧ a.2.2.1 ≤ 9223372036854775807) ∧ (Hp.RdV w a.2.2.2.1.1 (a.2.2.2.1.2.1.map (Value.int .u32)) ∧ (∀ z ∈ a.2.2.2.1.2.1, (Lit.int .u32 z).wf = true) ∧ (a.2.2.2.1.1 = none → a.2.2.2.1.2.1.length = 0 ∧ a.2.2.2.1.2.2 = 0) ∧ a.2.2.2.1.2.1.length ≤ a.2.2.2.1.2.2 ∧ a.2.2.2.1.2.2 ≤ maxLen) ∧ (-9223372036854775808 ≤ a.2.2.2.2.1 ∧ a.2.2.2.2.1 ≤ 9223372036854775807) ∧ (-9223372036854775808 ≤ a.2.2.2.2.2 ∧ a.2.2.2.2.2 ≤ 9223372036854775807) := by
  obtain ⟨cs, rfl, hsz, hf⟩ := open_fields Try.underlying24 (by kernel_rfl) (by kernel_rfl) hv h
  obtain ⟨x0, y0, n0, h0, t0⟩ := hf 0 _ rfl
  obtain ⟨x1, y1, n1, h1, t1⟩ := hf 1 _ rfl
  obtain ⟨x2, y2, n2, h2, t2⟩ := hf 2 _ rfl
  obtain ⟨x3, y3, n3, h3, t3⟩ := hf 3 _ rfl
  obtain ⟨x4, y4, n4, h4, t4⟩ := hf 4 _ rfl
  obtain ⟨x5, y5, n5, h5, t5⟩ := hf 5 _ rfl
  obtain ⟨m0, e0, _, w0⟩ := DataW.trod_int Try.underlying3 t0
  obtain ⟨m1, e1, _, w1⟩ := DataW.trod_int Try.underlying3 t1
  obtain ⟨m2, e2, _, w2⟩ := DataW.trod_int Try.underlying3 t2
  obtain ⟨s3, zs3, c3, rfl, hr3⟩ := open_nums Try.underlying22 Try.underlying25 (by kernel_rfl) t3
  obtain ⟨m4, e4, _, w4⟩ := DataW.trod_int Try.underlying3 t4
  obtain ⟨m5, e5, _, w5⟩ := DataW.trod_int Try.underlying3 t5
  simp only [List.cons.injEq, and_true] at e0 e1 e2 e4 e5
  subst e0 e1 e2 e4 e5
  refine ⟨(m0, m1, m2, (s3, zs3, c3), m4, m5), ?_, wf_i64 w0, wf_i64 w1, wf_i64 w2, hr3, wf_i64 w4, wf_i64 w5⟩
  congr 1
  apply Array.ext_getElem?
  intro i
  match i with
  | 0 => exact h0
  | 1 => exact h1
  | 2 => exact h2
  | 3 => exact h3
  | 4 => exact h4
  | 5 => exact h5
  | i + 6 => rw [Array.getElem?_eq_none (by rw [hsz]; show 6 ≤ i + 6; omega), Array.getElem?_eq_none (by show 6 ≤ i + 6; omega)]

theorem open_words {r : Reach} {b0 base : Nat} {v : Value} {d : DataW H} {p : List MemPlace} (hv : Value.okWide Try.prog w r b0 22 v) (h : DataW.Trod enc Try.prog w base spare held 22 v d p) :
    ∃ a : Option Addr × List Int × Nat, v = .slice a.1 a.2.1.length a.2.2 ∧ (Hp.RdV w a.1 (a.2.1.map (Value.int .u32)) ∧ (∀ z ∈ a.2.1, (Lit.int .u32 z).wf = true) ∧ (a.1 = none → a.2.1.length = 0 ∧ a.2.2 = 0) ∧ a.2.1.length ≤ a.2.2 ∧ a.2.2 ≤ maxLen) := by
  obtain ⟨s, zs, cap, rfl, hh⟩ := open_numsv Try.underlying22 Try.underlying25 (by kernel_rfl) hv h
  exact ⟨(s, zs, cap), rfl, hh⟩
theorem wf_words {l : List Int} (h : ∀ z ∈ l, (Lit.int .u32 z).wf = true) : ∀ z ∈ l, 0 ≤ z ∧ z ≤ 4294967295 := fun z hz => by
  have := h z hz
  simpa [Lit.wf, IntKind.min, IntKind.max, IntKind.signed, IntKind.bits] using this
theorem open_vm {r : Reach} {b0 base : Nat} {v : Value} {d : DataW H} {p : List MemPlace} (hv : Value.okWide Try.prog w r b0 28 v) (h : DataW.Trod enc Try.prog w base spare held 28 v d p) :
    ∃ m : PvP.Vm, v = .agg (PvP.vmA m) ∧ PvP.VmB m := by
  obtain ⟨cs, rfl, hsz⟩ := okWide_struct Try.underlying28 hv
  obtain ⟨fuel, hf⟩ := h
  obtain ⟨y0, n0, f0⟩ := trod_field Try.underlying28 hf 0 _ rfl
  obtain ⟨y1, n1, f1⟩ := trod_field Try.underlying28 hf 1 _ rfl
  have hl : (Value.agg cs).cells.toList.length = 9 := by show cs.toList.length = 9; rw [Array.length_toList, hsz]; kernel_rfl
  generalize hcl : (Value.agg cs).cells.toList = l at f0 f1 hl
  have hcs : cs = l.toArray := by rw [← hcl]; show cs = cs.toList.toArray; simp
  match l, hl with
  | [c0, c1, c2, c3, c4, c5, c6, c7, c8], _ =>
    have k0 : Try.prog.cellsOf 3 = 1 := by kernel_rfl
    have k1 : Try.prog.cellsOf 26 = 8 := by kernel_rfl
    replace f0 : DataW.trod enc Try.prog w base spare held n0 3 [c0] = some y0 := by
      rw [show ([c0] : List Value) = (([c0, c1, c2, c3, c4, c5, c6, c7, c8] : List Value).drop 0).take (Try.prog.cellsOf 3) by rw [k0]; rfl]; exact f0
    replace f1 : DataW.trod enc Try.prog w base spare held n1 26 [c1, c2, c3, c4, c5, c6, c7, c8] = some y1 := by
      rw [show ([c1, c2, c3, c4, c5, c6, c7, c8] : List Value) = (([c0, c1, c2, c3, c4, c5, c6, c7, c8] : List Value).drop 1).take (Try.prog.cellsOf 26) by rw [k1]; rfl]; exact f1
    obtain ⟨zs, e1, e2, e3, _⟩ := trod_nums Try.underlying26 Try.underlying25 (by kernel_rfl) (by kernel_rfl) f1
    obtain ⟨m, q1, _, q3⟩ := DataW.trod_int Try.underlying3 f0
    have hm := wf_i64 q3
    simp only [List.cons.injEq, and_true] at q1
    subst q1
    refine ⟨(m, zs), ?_, hm, e2, wf_words e3⟩
    rw [hcs]
    show Value.agg (Value.int .i64 m :: [c1, c2, c3, c4, c5, c6, c7, c8]).toArray = _
    rw [e1]
    rfl
end
theorem reach_max {n : Nat} (h : n ≤ maxLen) : n ≤ 9223372036854775807 := by unfold maxLen at h; omega

end Go.Proofs.Ytfioeliejblboaa