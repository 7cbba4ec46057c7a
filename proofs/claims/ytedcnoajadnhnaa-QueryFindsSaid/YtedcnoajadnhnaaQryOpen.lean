
/-
  The arguments of layer 15's statements, opened.
-/
import Derived.Test.YtedcnoajadnhnaaOpenR
import Derived.Test.YtedcnoajadnhnaaQry13
namespace Go.Proofs.Ytedcnoajadnhnaa
open Go.ChangeShapes Go.WideShapes Go.RowKit Go.Deep
set_option linter.unusedVariables false

theorem open_event {H : Type} {enc : TypeId × Value → H} {w : World} {spare : Nat → Bool} {held : Bool} {r : Reach} {b0 base : Nat} {v : Value} {d : DataW H} {p : List MemPlace} (hv : Value.okWide Try.prog w r b0 26 v) (h : DataW.Trod enc Try.prog w base spare held 26 v d p) :
    ∃ a : Int × Int × Int × Int × Int × Int, v = .agg #[.int .u64 a.1, .int .i64 a.2.1, .int .i64 a.2.2.1, .int .i64 a.2.2.2.1, .int .i64 a.2.2.2.2.1, .int .i64 a.2.2.2.2.2] ∧ (0 ≤ a.1 ∧ a.1 ≤ 18446744073709551615) ∧ (-9223372036854775808 ≤ a.2.1 ∧ a.2.1 ≤ 9223372036854775807) ∧ (-9223372036854775808 ≤ a.2.2.1 ∧ a.2.2.1 ≤ 9223372036854775807) ∧ (-9223372036854775808 ≤ a.2.2.2.1 ∧ a.2.2.2.1 ≤ 9223372036854775807) ∧ (-9223372036854775808 ≤ a.2.2.2.2.1 ∧ a.2.2.2.2.1 ≤ 9223372036854775807) ∧ (-9223372036854775808 ≤ a.2.2.2.2.2 ∧ a.2.2.2.2.2 ≤ 9223372036854775807) := by
  obtain ⟨cs, rfl, hsz, hf⟩ := open_fields Try.underlying26 (by kernel_rfl) (by kernel_rfl) hv h
  obtain ⟨x0, y0, n0, h0, t0⟩ := hf 0 _ rfl
  obtain ⟨x1, y1, n1, h1, t1⟩ := hf 1 _ rfl
  obtain ⟨x2, y2, n2, h2, t2⟩ := hf 2 _ rfl
  obtain ⟨x3, y3, n3, h3, t3⟩ := hf 3 _ rfl
  obtain ⟨x4, y4, n4, h4, t4⟩ := hf 4 _ rfl
  obtain ⟨x5, y5, n5, h5, t5⟩ := hf 5 _ rfl
  obtain ⟨m0, e0, _, w0⟩ := DataW.trod_int Try.underlying22 t0
  obtain ⟨m1, e1, _, w1⟩ := DataW.trod_int Try.underlying3 t1
  obtain ⟨m2, e2, _, w2⟩ := DataW.trod_int Try.underlying3 t2
  obtain ⟨m3, e3, _, w3⟩ := DataW.trod_int Try.underlying3 t3
  obtain ⟨m4, e4, _, w4⟩ := DataW.trod_int Try.underlying3 t4
  obtain ⟨m5, e5, _, w5⟩ := DataW.trod_int Try.underlying3 t5
  simp only [List.cons.injEq, and_true] at e0 e1 e2 e3 e4 e5
  subst e0 e1 e2 e3 e4 e5
  refine ⟨(m0, m1, m2, m3, m4, m5), ?_, wf_u64 w0, wf_i64 w1, wf_i64 w2, wf_i64 w3, wf_i64 w4, wf_i64 w5⟩
  congr 1
  apply Array.ext_getElem?
  intro i
  match i with
  | 0 => exact h0
  | 1 => exact h1
  | 2 => exact h2
  | 3 => exact h3
  | 4 => exact h4
  | 5 => exact h5
  | i + 6 => rw [Array.getElem?_eq_none (by rw [hsz]; show 6 ≤ i + 6; omega), Array.getElem?_eq_none (by show 6 ≤ i + 6; omega)]
theorem open_query {H : Type} {enc : TypeId × Value → H} {w : World} {spare : Nat → Bool} {held : Bool} {r : Reach} {b0 base : Nat} {v : Value} {d : DataW H} {p : List MemPlace} (hv : Value.okWide Try.prog w r b0 24 v) (h : DataW.Trod enc Try.prog w base spare held 24 v d p) :
    ∃ a : Int × Int × Int × Int × Int × Int × Int, v = .agg #[.int .u64 a.1, .int .u64 a.2.1, .int .i64 a.2.2.1, .int .i64 a.2.2.2.1, .int .u64 a.2.2.2.2.1, .int .u64 a.2.2.2.2.2.1, .int .i64 a.2.2.2.2.2.2] ∧ (0 ≤ a.1 ∧ a.1 ≤ 18446744073709551615) ∧ (0 ≤ a.2.1 ∧ a.2.1 ≤ 18446744073709551615) ∧ (-9223372036854775808 ≤ a.2.2.1 ∧ a.2.2.1 ≤ 9223372036854775807) ∧ (-9223372036854775808 ≤ a.2.2.2.1 ∧ a.2.2.2.1 ≤ 9223372036854775807) ∧ (0 ≤ a.2.2.2.2.1 ∧ a.2.2.2.2.1 ≤ 18446744073709551615) ∧ (0 ≤ a.2.2.2.2.2.1 ∧ a.2.2.2.2.2.1 ≤ 18446744073709551615) ∧ (-9223372036854775808 ≤ a.2.2.2.2.2.2 ∧ a.2.2.2.2.2.2 ≤ 9223372036854775807) := by
  obtain ⟨cs, rfl, hsz, hf⟩ := open_fields Try.underlying24 (by kernel_rfl) (by kernel_rfl) hv h
  obtain ⟨x0, y0, n0, h0, t0⟩ := hf 0 _ rfl
  obtain ⟨x1, y1, n1, h1, t1⟩ := hf 1 _ rfl
  obtain ⟨x2, y2, n2, h2, t2⟩ := hf 2 _ rfl
  obtain ⟨x3, y3, n3, h3, t3⟩ := hf 3 _ rfl
  obtain ⟨x4, y4, n4, h4, t4⟩ := hf 4 _ rfl
  obtain ⟨x5, y5, n5, h5, t5⟩ := hf 5 _ rfl
  obtain ⟨x6, y6, n6, h6, t6⟩ := hf 6 _ rfl
  obtain ⟨m0, e0, _, w0⟩ := DataW.trod_int Try.underlying22 t0
  obtain ⟨m1, e1, _, w1⟩ := DataW.trod_int Try.underlying22 t1
  obtain ⟨m2, e2, _, w2⟩ := DataW.trod_int Try.underlying3 t2
  obtain ⟨m3, e3, _, w3⟩ := DataW.trod_int Try.underlying3 t3
  obtain ⟨m4, e4, _, w4⟩ := DataW.trod_int Try.underlying22 t4
  obtain ⟨m5, e5, _, w5⟩ := DataW.trod_int Try.underlying22 t5
  obtain ⟨m6, e6, _, w6⟩ := DataW.trod_int Try.underlying3 t6
  simp only [List.cons.injEq, and_true] at e0 e1 e2 e3 e4 e5 e6
  subst e0 e1 e2 e3 e4 e5 e6
  refine ⟨(m0, m1, m2, m3, m4, m5, m6), ?_, wf_u64 w0, wf_u64 w1, wf_i64 w2, wf_i64 w3, wf_u64 w4, wf_u64 w5, wf_i64 w6⟩
  congr 1
  apply Array.ext_getElem?
  intro i
  match i with
  | 0 => exact h0
  | 1 => exact h1
  | 2 => exact h2
  | 3 => exact h3
  | 4 => exact h4
  | 5 => exact h5
  | 6 => exact h6
  | i + 7 => rw [Array.getElem?_eq_none (by rw [hsz]; show 7 ≤ i + 7; omega), Array.getElem?_eq_none (by show 7 ≤ i + 7; omega)]
theorem open_block {H : Type} {enc : TypeId × Value → H} {w : World} {spare : Nat → Bool} {held : Bool} {r : Reach} {b0 base : Nat} {v : Value} {d : DataW H} {p : List MemPlace} (hv : Value.okWide Try.prog w r b0 28 v) (h : DataW.Trod enc Try.prog w base spare held 28 v d p) :
    ∃ a : Int × Int × Int × Int × Int × Int × Int, v = .agg #[.int .i64 a.1, .int .i64 a.2.1, .int .u64 a.2.2.1, .int .i64 a.2.2.2.1, .int .i64 a.2.2.2.2.1, .int .u64 a.2.2.2.2.2.1, .int .u64 a.2.2.2.2.2.2] ∧ (-9223372036854775808 ≤ a.1 ∧ a.1 ≤ 9223372036854775807) ∧ (-9223372036854775808 ≤ a.2.1 ∧ a.2.1 ≤ 9223372036854775807) ∧ (0 ≤ a.2.2.1 ∧ a.2.2.1 ≤ 18446744073709551615) ∧ (-9223372036854775808 ≤ a.2.2.2.1 ∧ a.2.2.2.1 ≤ 9223372036854775807) ∧ (-9223372036854775808 ≤ a.2.2.2.2.1 ∧ a.2.2.2.2.1 ≤ 9223372036854775807) ∧ (0 ≤ a.2.2.2.2.2.1 ∧ a.2.2.2.2.2.1 ≤ 18446744073709551615) ∧ (0 ≤ a.2.2.2.2.2.2 ∧ a.2.2.2.2.2.2 ≤ 18446744073709551615) := by
  obtain ⟨cs, rfl, hsz, hf⟩ := open_fields Try.underlying28 (by kernel_rfl) (by kernel_rfl) hv h
  obtain ⟨x0, y0, n0, h0, t0⟩ := hf 0 _ rfl
  obtain ⟨x1, y1, n1, h1, t1⟩ := hf 1 _ rfl
  obtain ⟨x2, y2, n2, h2, t2⟩ := hf 2 _ rfl
  obtain ⟨x3, y3, n3, h3, t3⟩ := hf 3 _ rfl
  obtain ⟨x4, y4, n4, h4, t4⟩ := hf 4 _ rfl
  obtain ⟨x5, y5, n5, h5, t5⟩ := hf 5 _ rfl
  obtain ⟨x6, y6, n6, h6, t6⟩ := hf 6 _ rfl
  obtain ⟨m0, e0, _, w0⟩ := DataW.trod_int Try.underlying3 t0
  obtain ⟨m1, e1, _, w1⟩ := DataW.trod_int Try.underlying3 t1
  obtain ⟨m2, e2, _, w2⟩ := DataW.trod_int Try.underlying22 t2
  obtain ⟨m3, e3, _, w3⟩ := DataW.trod_int Try.underlying3 t3
  obtain ⟨m4, e4, _, w4⟩ := DataW.trod_int Try.underlying3 t4
  obtain ⟨m5, e5, _, w5⟩ := DataW.trod_int Try.underlying22 t5
  obtain ⟨m6, e6, _, w6⟩ := DataW.trod_int Try.underlying22 t6
  simp only [List.cons.injEq, and_true] at e0 e1 e2 e3 e4 e5 e6
  subst e0 e1 e2 e3 e4 e5 e6
  refine ⟨(m0, m1, m2, m3, m4, m5, m6), ?_, wf_i64 w0, wf_i64 w1, wf_u64 w2, wf_i64 w3, wf_i64 w4, wf_u64 w5, wf_u64 w6⟩
  congr 1
  apply Array.ext_getElem?
  intro i
  match i with
  | 0 => exact h0
  | 1 => exact h1
  | 2 => exact h2
  | 3 => exact h3
  | 4 => exact h4
  | 5 => exact h5
  | 6 => exact h6
  | i + 7 => rw [Array.getElem?_eq_none (by rw [hsz]; show 7 ≤ i + 7; omega), Array.getElem?_eq_none (by show 7 ≤ i + 7; omega)]
theorem queryFits_walk' (q : Int × Int × Int × Int × Int × Int × Int) (x : Int × Int × Int × Int × Int × Int) (c : Int × Int × Int × Int × Int × Int × Int) (w : World) (hq : (0 ≤ q.1 ∧ q.1 ≤ 18446744073709551615) ∧ (0 ≤ q.2.1 ∧ q.2.1 ≤ 18446744073709551615) ∧ (-9223372036854775808 ≤ q.2.2.1 ∧ q.2.2.1 ≤ 9223372036854775807) ∧ (-9223372036854775808 ≤ q.2.2.2.1 ∧ q.2.2.2.1 ≤ 9223372036854775807) ∧ (0 ≤ q.2.2.2.2.1 ∧ q.2.2.2.2.1 ≤ 18446744073709551615) ∧ (0 ≤ q.2.2.2.2.2.1 ∧ q.2.2.2.2.2.1 ≤ 18446744073709551615) ∧ (-9223372036854775808 ≤ q.2.2.2.2.2.2 ∧ q.2.2.2.2.2.2 ≤ 9223372036854775807)) (hx : (0 ≤ x.1 ∧ x.1 ≤ 18446744073709551615) ∧ (-9223372036854775808 ≤ x.2.1 ∧ x.2.1 ≤ 9223372036854775807) ∧ (-9223372036854775808 ≤ x.2.2.1 ∧ x.2.2.1 ≤ 9223372036854775807) ∧ (-9223372036854775808 ≤ x.2.2.2.1 ∧ x.2.2.2.1 ≤ 9223372036854775807) ∧ (-9223372036854775808 ≤ x.2.2.2.2.1 ∧ x.2.2.2.2.1 ≤ 9223372036854775807) ∧ (-9223372036854775808 ≤ x.2.2.2.2.2 ∧ x.2.2.2.2.2 ≤ 9223372036854775807)) (hc : (-9223372036854775808 ≤ c.1 ∧ c.1 ≤ 9223372036854775807) ∧ (-9223372036854775808 ≤ c.2.1 ∧ c.2.1 ≤ 9223372036854775807) ∧ (0 ≤ c.2.2.1 ∧ c.2.2.1 ≤ 18446744073709551615) ∧ (-9223372036854775808 ≤ c.2.2.2.1 ∧ c.2.2.2.1 ≤ 9223372036854775807) ∧ (-9223372036854775808 ≤ c.2.2.2.2.1 ∧ c.2.2.2.2.1 ≤ 9223372036854775807) ∧ (0 ≤ c.2.2.2.2.2.1 ∧ c.2.2.2.2.2.1 ≤ 18446744073709551615) ∧ (0 ≤ c.2.2.2.2.2.2 ∧ c.2.2.2.2.2.2 ≤ 18446744073709551615)) :
    Calls Try.prog 3 #[.agg #[.int .u64 q.1, .int .u64 q.2.1, .int .i64 q.2.2.1, .int .i64 q.2.2.2.1, .int .u64 q.2.2.2.2.1, .int .u64 q.2.2.2.2.2.1, .int .i64 q.2.2.2.2.2.2], .agg #[.int .u64 x.1, .int .i64 x.2.1, .int .i64 x.2.2.1, .int .i64 x.2.2.2.1, .int .i64 x.2.2.2.2.1, .int .i64 x.2.2.2.2.2], .agg #[.int .i64 c.1, .int .i64 c.2.1, .int .u64 c.2.2.1, .int .i64 c.2.2.2.1, .int .i64 c.2.2.2.2.1, .int .u64 c.2.2.2.2.2.1, .int .u64 c.2.2.2.2.2.2]] w fun e w' => e = .returned (.bool true) ∧ Below w.heap.size w w' :=
  queryFits_walk q.1 q.2.1 q.2.2.1 q.2.2.2.1 q.2.2.2.2.1 q.2.2.2.2.2.1 q.2.2.2.2.2.2 x.1 x.2.1 x.2.2.1 x.2.2.2.1 x.2.2.2.2.1 x.2.2.2.2.2 c.1 c.2.1 c.2.2.1 c.2.2.2.1 c.2.2.2.2.1 c.2.2.2.2.2.1 c.2.2.2.2.2.2 w hq.1 hq.2.1 hq.2.2.1 hq.2.2.2.1 hq.2.2.2.2.1 hq.2.2.2.2.2.1 hq.2.2.2.2.2.2 hx.1 hx.2.1 hx.2.2.1 hx.2.2.2.1 hx.2.2.2.2.1 hx.2.2.2.2.2 hc.1 hc.2.1 hc.2.2.1 hc.2.2.2.1 hc.2.2.2.2.1 hc.2.2.2.2.2.1 hc.2.2.2.2.2.2

end Go.Proofs.Ytedcnoajadnhnaa
