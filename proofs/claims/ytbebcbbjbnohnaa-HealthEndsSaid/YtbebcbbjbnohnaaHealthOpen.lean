/-
  The arguments of layer 25's statements, opened.
-/
import Derived.Test.YtbebcbbjbnohnaaOpenH
import Derived.Test.YtbebcbbjbnohnaaHealth9
namespace Go.Proofs.Ytbebcbbjbnohnaa
open Go.ChangeShapes Go.WideShapes Go.RowKit Go.Deep
set_option linter.unusedVariables false

section
variable {H : Type} {enc : TypeId × Value → H} {w : World} {spare : Nat → Bool} {held : Bool}
theorem open_part {r : Reach} {b0 base : Nat} {v : Value} {d : DataW H} {p : List MemPlace} (hv : Value.okWide Try.prog w r b0 24 v) (h : DataW.Trod enc Try.prog w base spare held 24 v d p) :
    ∃ a : Int × Int × Int × (Option Addr × List Int × Nat) × Int × Int, v = .agg #[.int .i64 a.1, .int .i64 a.2.1, .int .i64 a.2.2.1, .slice a.2.2.2.1.1 a.2.2.2.1.2.1.length a.2.2.2.1.2.2, .int .i64 a.2.2.2.2.1, .int .i64 a.2.2.2.2.2] ∧ (-9223372036854775808 ≤ a.1 ∧ a.1 ≤ 9223372036854775807) ∧ (-9223372036854775808 ≤ a.2.1 ∧ a.2.1 ≤ 9223372036854775807) ∧ (-9223372036854775808 ≤ a.2.2.1 ∧ a.2.2.1 ≤ 9223372036854775807) ∧ (Hp.RdV w a.2.2.2.1.1 (a.2.2.2.1.2.1.map (Value.int .u32)) ∧ (∀ z ∈ a.2.2.2.1.2.1, (Lit.int .u32 z).wf = true) ∧ (a.2.2.2.1.1 = none → a.2.2.2.1.2.1.length = 0 ∧ a.2.2.2.1.2.2 = 0) ∧ a.2.2.2.1.2.1.length ≤ a.2.2.2.1.2.2 ∧ a.2.2.2.1.2.2 ≤ maxLen) ∧ (-9223372036854775808 ≤ a.2.2.2.2.1 ∧ a.2.2.2.2.1 ≤ 9223372036854775807) ∧ (-9223372036854775808 ≤ a.2.2.2.2.2 ∧ a.2.2.2.2.2 ≤ 9223372036854775807) := by
  obtain ⟨cs, rfl, hsz, hf⟩ := open_fields Try.underlying24 (by kernel_rfl) (by kernel_rfl) hv h
  obtain ⟨x0, y0, n0, h0, t0⟩ := hf 0 _ rfl
  obtain ⟨x1, y1, n1, h1, t1⟩ := hf 1 _ rfl
  obtain ⟨x2, y2, n2, h2, t2⟩ := hf 2 _ rfl
  obtain ⟨x3, y3, n3, h3, t3⟩ := hf 3 _ rfl
  obtain ⟨x4, y4, n4, h4, t4⟩ := hf 4 _ rfl
  obtain ⟨x5, y5, n5, h5, t5⟩ := hf 5 _ rfl
  obtain ⟨m0, e0, _, w0⟩ := DataW.trod_int Try.underlying3 t0
  obtain ⟨m1, e1, _, w1⟩ := DataW.trod_int Try.underlying3 t1
  obtain ⟨m2, e2, _, w2⟩ := DataW.trod_int Try.underlying3 t2
  obtain ⟨s3, zs3, c3, rfl, hr3⟩ := open_nums Try.underlying22 Try.underlying51 (by kernel_rfl) t3
  obtain ⟨m4, e4, _, w4⟩ := DataW.trod_int Try.underlying3 t4
  obtain ⟨m5, e5, _, w5⟩ := DataW.trod_int Try.underlying3 t5
  simp only [List.cons.injEq, and_true] at e0 e1 e2 e4 e5
  subst e0 e1 e2 e4 e5
  refine ⟨(m0, m1, m2, (s3, zs3, c3), m4, m5), ?_, wf_i64 w0, wf_i64 w1, wf_i64 w2, hr3, wf_i64 w4, wf_i64 w5⟩
  congr 1
  apply Array.ext_getElem?
  intro i
  match i with
  | 0 => exact h0
  | 1 => exact h1
  | 2 => exact h2
  | 3 => exact h3
  | 4 => exact h4
  | 5 => exact h5
  | i + 6 => rw [Array.getElem?_eq_none (by rw [hsz]; show 6 ≤ i + 6; omega), Array.getElem?_eq_none (by show 6 ≤ i + 6; omega)]
theorem open_health {r : Reach} {b0 base : Nat} {v : Value} {d : DataW H} {p : List MemPlace} (hv : Value.okWide Try.prog w r b0 26 v) (h : DataW.Trod enc Try.prog w base spare held 26 v d p) :
    ∃ a : Int × Int × Bool, v = .agg #[.int .i64 a.1, .int .i64 a.2.1, .bool a.2.2] ∧ (-9223372036854775808 ≤ a.1 ∧ a.1 ≤ 9223372036854775807) ∧ (-9223372036854775808 ≤ a.2.1 ∧ a.2.1 ≤ 9223372036854775807) := by
  obtain ⟨cs, rfl, hsz, hf⟩ := open_fields Try.underlying26 (by kernel_rfl) (by kernel_rfl) hv h
  obtain ⟨x0, y0, n0, h0, t0⟩ := hf 0 _ rfl
  obtain ⟨x1, y1, n1, h1, t1⟩ := hf 1 _ rfl
  obtain ⟨x2, y2, n2, h2, t2⟩ := hf 2 _ rfl
  obtain ⟨m0, e0, _, w0⟩ := DataW.trod_int Try.underlying3 t0
  obtain ⟨m1, e1, _, w1⟩ := DataW.trod_int Try.underlying3 t1
  obtain ⟨m2, e2, _⟩ := DataW.trod_bool Try.underlying4 t2
  simp only [List.cons.injEq, and_true] at e0 e1 e2
  subst e0 e1 e2
  refine ⟨(m0, m1, m2), ?_, wf_i64 w0, wf_i64 w1⟩
  congr 1
  apply Array.ext_getElem?
  intro i
  match i with
  | 0 => exact h0
  | 1 => exact h1
  | 2 => exact h2
  | i + 3 => rw [Array.getElem?_eq_none (by rw [hsz]; show 3 ≤ i + 3; omega), Array.getElem?_eq_none (by show 3 ≤ i + 3; omega)]
end

theorem healthTells_walk' (p : Int × Int × Int × (Option Addr × List Int × Nat) × Int × Int) (h : Int × Int × Bool) (w : World) (hp : (-9223372036854775808 ≤ p.1 ∧ p.1 ≤ 9223372036854775807) ∧ (-9223372036854775808 ≤ p.2.1 ∧ p.2.1 ≤ 9223372036854775807) ∧ (-9223372036854775808 ≤ p.2.2.1 ∧ p.2.2.1 ≤ 9223372036854775807) ∧ (Hp.RdV w p.2.2.2.1.1 (p.2.2.2.1.2.1.map (Value.int .u32)) ∧ (∀ z ∈ p.2.2.2.1.2.1, (Lit.int .u32 z).wf = true) ∧ (p.2.2.2.1.1 = none → p.2.2.2.1.2.1.length = 0 ∧ p.2.2.2.1.2.2 = 0) ∧ p.2.2.2.1.2.1.length ≤ p.2.2.2.1.2.2 ∧ p.2.2.2.1.2.2 ≤ maxLen) ∧ (-9223372036854775808 ≤ p.2.2.2.2.1 ∧ p.2.2.2.2.1 ≤ 9223372036854775807) ∧ (-9223372036854775808 ≤ p.2.2.2.2.2 ∧ p.2.2.2.2.2 ≤ 9223372036854775807)) (hh : (-9223372036854775808 ≤ h.1 ∧ h.1 ≤ 9223372036854775807) ∧ (-9223372036854775808 ≤ h.2.1 ∧ h.2.1 ≤ 9223372036854775807)) :
    Calls Try.prog 3 #[.agg #[.int .i64 p.1, .int .i64 p.2.1, .int .i64 p.2.2.1, .slice p.2.2.2.1.1 p.2.2.2.1.2.1.length p.2.2.2.1.2.2, .int .i64 p.2.2.2.2.1, .int .i64 p.2.2.2.2.2], .agg #[.int .i64 h.1, .int .i64 h.2.1, .bool h.2.2]] w fun e w' => e = .returned (.bool true) ∧ Below w.heap.size w w' :=
  healthTells_walk _ _ _ _ _ _ _ _ _ _ _ w hp.2.2.2.2.1 hp.2.2.2.2.2 hh.1 hh.2

theorem healthLeft_walk' (p : Int × Int × Int × (Option Addr × List Int × Nat) × Int × Int) (h : Int × Int × Bool) (w : World) (hp : (-9223372036854775808 ≤ p.1 ∧ p.1 ≤ 9223372036854775807) ∧ (-9223372036854775808 ≤ p.2.1 ∧ p.2.1 ≤ 9223372036854775807) ∧ (-9223372036854775808 ≤ p.2.2.1 ∧ p.2.2.1 ≤ 9223372036854775807) ∧ (Hp.RdV w p.2.2.2.1.1 (p.2.2.2.1.2.1.map (Value.int .u32)) ∧ (∀ z ∈ p.2.2.2.1.2.1, (Lit.int .u32 z).wf = true) ∧ (p.2.2.2.1.1 = none → p.2.2.2.1.2.1.length = 0 ∧ p.2.2.2.1.2.2 = 0) ∧ p.2.2.2.1.2.1.length ≤ p.2.2.2.1.2.2 ∧ p.2.2.2.1.2.2 ≤ maxLen) ∧ (-9223372036854775808 ≤ p.2.2.2.2.1 ∧ p.2.2.2.2.1 ≤ 9223372036854775807) ∧ (-9223372036854775808 ≤ p.2.2.2.2.2 ∧ p.2.2.2.2.2 ≤ 9223372036854775807)) (hh : (-9223372036854775808 ≤ h.1 ∧ h.1 ≤ 9223372036854775807) ∧ (-9223372036854775808 ≤ h.2.1 ∧ h.2.1 ≤ 9223372036854775807)) :
    Calls Try.prog 6 #[.agg #[.int .i64 p.1, .int .i64 p.2.1, .int .i64 p.2.2.1, .slice p.2.2.2.1.1 p.2.2.2.1.2.1.length p.2.2.2.1.2.2, .int .i64 p.2.2.2.2.1, .int .i64 p.2.2.2.2.2], .agg #[.int .i64 h.1, .int .i64 h.2.1, .bool h.2.2]] w fun e w' => e = .returned (.bool true) ∧ Below w.heap.size w w' :=
  healthLeft_walk _ _ _ _ _ _ _ _ _ _ _ w hp.2.2.2.2.1 hp.2.2.2.2.2 hh.1 hh.2

theorem healthRows_walk' (p : Int × Int × Int × (Option Addr × List Int × Nat) × Int × Int) (h : Int × Int × Bool) (n : Int) (w : World) (hp : (-9223372036854775808 ≤ p.1 ∧ p.1 ≤ 9223372036854775807) ∧ (-9223372036854775808 ≤ p.2.1 ∧ p.2.1 ≤ 9223372036854775807) ∧ (-9223372036854775808 ≤ p.2.2.1 ∧ p.2.2.1 ≤ 9223372036854775807) ∧ (Hp.RdV w p.2.2.2.1.1 (p.2.2.2.1.2.1.map (Value.int .u32)) ∧ (∀ z ∈ p.2.2.2.1.2.1, (Lit.int .u32 z).wf = true) ∧ (p.2.2.2.1.1 = none → p.2.2.2.1.2.1.length = 0 ∧ p.2.2.2.1.2.2 = 0) ∧ p.2.2.2.1.2.1.length ≤ p.2.2.2.1.2.2 ∧ p.2.2.2.1.2.2 ≤ maxLen) ∧ (-9223372036854775808 ≤ p.2.2.2.2.1 ∧ p.2.2.2.2.1 ≤ 9223372036854775807) ∧ (-9223372036854775808 ≤ p.2.2.2.2.2 ∧ p.2.2.2.2.2 ≤ 9223372036854775807)) (hh : (-9223372036854775808 ≤ h.1 ∧ h.1 ≤ 9223372036854775807) ∧ (-9223372036854775808 ≤ h.2.1 ∧ h.2.1 ≤ 9223372036854775807)) (hn : -9223372036854775808 ≤ n ∧ n ≤ 9223372036854775807) :
    Calls Try.prog 4 #[.agg #[.int .i64 p.1, .int .i64 p.2.1, .int .i64 p.2.2.1, .slice p.2.2.2.1.1 p.2.2.2.1.2.1.length p.2.2.2.1.2.2, .int .i64 p.2.2.2.2.1, .int .i64 p.2.2.2.2.2], .agg #[.int .i64 h.1, .int .i64 h.2.1, .bool h.2.2], .int .i64 n] w fun e w' => e = .returned (.bool true) ∧ Below w.heap.size w w' :=
  healthRows_walk _ _ _ _ _ _ _ _ _ _ _ n w hp.2.2.2.2.1 hp.2.2.2.2.2 hh.1 hh.2 hn

end Go.Proofs.Ytbebcbbjbnohnaa
