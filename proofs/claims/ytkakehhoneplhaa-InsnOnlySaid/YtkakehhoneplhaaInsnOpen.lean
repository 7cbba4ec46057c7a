/-
  The arguments of layer 20's statements, opened.
-/
import Derived.Test.YtkakehhoneplhaaOpenH
import Derived.Test.YtkakehhoneplhaaInsn4
namespace Go.Proofs.Ytkakehhoneplhaa
open Go.ChangeShapes Go.WideShapes Go.RowKit Go.Deep
set_option linter.unusedVariables false

section
variable {H : Type} {enc : TypeId × Value → H} {w : World} {spare : Nat → Bool} {held : Bool}
theorem open_insn {r : Reach} {b0 base : Nat} {v : Value} {d : DataW H} {p : List MemPlace} (hv : Value.okWide Try.prog w r b0 23 v) (h : DataW.Trod enc Try.prog w base spare held 23 v d p) :
    ∃ a : Int × Int × Int × Int, v = .agg #[.int .i64 a.1, .int .i64 a.2.1, .int .i64 a.2.2.1, .int .i64 a.2.2.2] ∧ (-9223372036854775808 ≤ a.1 ∧ a.1 ≤ 9223372036854775807) ∧ (-9223372036854775808 ≤ a.2.1 ∧ a.2.1 ≤ 9223372036854775807) ∧ (-9223372036854775808 ≤ a.2.2.1 ∧ a.2.2.1 ≤ 9223372036854775807) ∧ (-9223372036854775808 ≤ a.2.2.2 ∧ a.2.2.2 ≤ 9223372036854775807) := by
  obtain ⟨cs, rfl, hsz, hf⟩ := open_fields Try.underlying23 (by kernel_rfl) (by kernel_rfl) hv h
  obtain ⟨x0, y0, n0, h0, t0⟩ := hf 0 _ rfl
  obtain ⟨x1, y1, n1, h1, t1⟩ := hf 1 _ rfl
  obtain ⟨x2, y2, n2, h2, t2⟩ := hf 2 _ rfl
  obtain ⟨x3, y3, n3, h3, t3⟩ := hf 3 _ rfl
  obtain ⟨m0, e0, _, w0⟩ := DataW.trod_int Try.underlying3 t0
  obtain ⟨m1, e1, _, w1⟩ := DataW.trod_int Try.underlying3 t1
  obtain ⟨m2, e2, _, w2⟩ := DataW.trod_int Try.underlying3 t2
  obtain ⟨m3, e3, _, w3⟩ := DataW.trod_int Try.underlying3 t3
  simp only [List.cons.injEq, and_true] at e0 e1 e2 e3
  subst e0 e1 e2 e3
  refine ⟨(m0, m1, m2, m3), ?_, wf_i64 w0, wf_i64 w1, wf_i64 w2, wf_i64 w3⟩
  congr 1
  apply Array.ext_getElem?
  intro i
  match i with
  | 0 => exact h0
  | 1 => exact h1
  | 2 => exact h2
  | 3 => exact h3
  | i + 4 => rw [Array.getElem?_eq_none (by rw [hsz]; show 4 ≤ i + 4; omega), Array.getElem?_eq_none (by show 4 ≤ i + 4; omega)]
theorem open_w32 {r : Reach} {b0 base : Nat} {v : Value} {d : DataW H} {p : List MemPlace} (hv : Value.okWide Try.prog w r b0 24 v) (h : DataW.Trod enc Try.prog w base spare held 24 v d p) :
    ∃ a : Int, v = .int .u32 a ∧ (0 ≤ a ∧ a ≤ 4294967295) := by
  obtain ⟨a, e, _, _, hw⟩ := open_int Try.underlying24 hv h
  exact ⟨a, e, wf_u32 hw⟩
theorem open_code {r : Reach} {b0 base : Nat} {v : Value} {d : DataW H} {p : List MemPlace} (hv : Value.okWide Try.prog w r b0 32 v) (h : DataW.Trod enc Try.prog w base spare held 32 v d p) :
    ∃ x : Option Addr × List Int × Nat, v = .slice x.1 x.2.1.length x.2.2 ∧ Hp.RdV w x.1 (wds x.2.1) ∧ (∀ z ∈ x.2.1, 0 ≤ z ∧ z ≤ 4294967295) ∧ x.2.1.length ≤ 9223372036854775807 := by
  obtain ⟨s, zs, c, rfl, h1, h2, h3, h4, h5⟩ := open_numsv Try.underlying32 Try.underlying24 (by kernel_rfl) hv h
  exact ⟨(s, zs, c), rfl, h1, fun z hz => wf_u32 (h2 z hz), by unfold maxLen at h5; simp only; omega⟩
end

theorem insnWords_walk' (y : Int × Int × Int × Int) (z : Int) (w : World) (hy : (-9223372036854775808 ≤ y.1 ∧ y.1 ≤ 9223372036854775807) ∧ (-9223372036854775808 ≤ y.2.1 ∧ y.2.1 ≤ 9223372036854775807) ∧ (-9223372036854775808 ≤ y.2.2.1 ∧ y.2.2.1 ≤ 9223372036854775807) ∧ (-9223372036854775808 ≤ y.2.2.2 ∧ y.2.2.2 ≤ 9223372036854775807)) (hz : 0 ≤ z ∧ z ≤ 4294967295) :
    Calls Try.prog 3 #[.agg #[.int .i64 y.1, .int .i64 y.2.1, .int .i64 y.2.2.1, .int .i64 y.2.2.2], .int .u32 z] w fun e w' => e = .returned (.bool true) ∧ Below w.heap.size w w' :=
  insnWords_walk _ _ _ _ _ w hy.1 hy.2.1 hy.2.2.1 hy.2.2.2 hz

theorem insnShows_walk' (z o : Int) (x : Option Addr × List Int × Nat) (w : World) (hz : 0 ≤ z ∧ z ≤ 4294967295) (ho : -9223372036854775808 ≤ o ∧ o ≤ 9223372036854775807) (hx : Hp.RdV w x.1 (wds x.2.1) ∧ (∀ z ∈ x.2.1, 0 ≤ z ∧ z ≤ 4294967295) ∧ x.2.1.length ≤ 9223372036854775807) :
    Calls Try.prog 4 #[.int .u32 z, .int .i64 o, .slice x.1 x.2.1.length x.2.2] w fun e w' => e = .returned (.bool true) ∧ Below w.heap.size w w' :=
  insnShows_walk _ _ _ _ _ _ w hz ho rfl hx.2.2 hx.1 hx.2.1

end Go.Proofs.Ytkakehhoneplhaa
