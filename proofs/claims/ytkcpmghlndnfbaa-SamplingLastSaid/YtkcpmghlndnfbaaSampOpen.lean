/-
  The arguments of layer 22's statements, opened.
-/
import Derived.Test.YtkcpmghlndnfbaaOpen
import Derived.Test.YtkcpmghlndnfbaaSampOwn
namespace Go.Proofs.Ytkcpmghlndnfbaa
open Go.ChangeShapes Go.WideShapes Go.RowKit Go.Deep
set_option linter.unusedVariables false
set_option linter.unusedSimpArgs false

section
variable {H : Type} {enc : TypeId × Value → H} {w : World} {spare : Nat → Bool} {held : Bool}

theorem open_chan {r : Reach} {b0 base : Nat} {v : Value} {d : DataW H} {p : List MemPlace} (hv : Value.okWide Try.prog w r b0 23 v) (h : DataW.Trod enc Try.prog w base spare held 23 v d p) :
    ∃ a : Int × Int × Int × Int × Int, v = .agg #[.int .i64 a.1, .int .i64 a.2.1, .int .i64 a.2.2.1, .int .i64 a.2.2.2.1, .int .i64 a.2.2.2.2] ∧ (-9223372036854775808 ≤ a.2.2.2.1 ∧ a.2.2.2.1 ≤ 9223372036854775807) := by
  obtain ⟨cs, rfl, hsz, hf⟩ := open_fields Try.underlying23 (by kernel_rfl) (by kernel_rfl) hv h
  obtain ⟨x0, y0, n0, h0, t0⟩ := hf 0 _ rfl
  obtain ⟨x1, y1, n1, h1, t1⟩ := hf 1 _ rfl
  obtain ⟨x2, y2, n2, h2, t2⟩ := hf 2 _ rfl
  obtain ⟨x3, y3, n3, h3, t3⟩ := hf 3 _ rfl
  obtain ⟨x4, y4, n4, h4, t4⟩ := hf 4 _ rfl
  obtain ⟨m0, e0, _, w0⟩ := DataW.trod_int Try.underlying3 t0
  obtain ⟨m1, e1, _, w1⟩ := DataW.trod_int Try.underlying3 t1
  obtain ⟨m2, e2, _, w2⟩ := DataW.trod_int Try.underlying3 t2
  obtain ⟨m3, e3, _, w3⟩ := DataW.trod_int Try.underlying3 t3
  obtain ⟨m4, e4, _, w4⟩ := DataW.trod_int Try.underlying3 t4
  simp only [List.cons.injEq, and_true] at e0 e1 e2 e3 e4
  subst e0 e1 e2 e3 e4
  refine ⟨(m0, m1, m2, m3, m4), ?_, wf_i64 w3⟩
  congr 1
  apply Array.ext_getElem?
  intro i
  match i with
  | 0 => exact h0
  | 1 => exact h1
  | 2 => exact h2
  | 3 => exact h3
  | 4 => exact h4
  | i + 5 => rw [Array.getElem?_eq_none (by rw [hsz]; show 5 ≤ i + 5; omega), Array.getElem?_eq_none (by show 5 ≤ i + 5; omega)]

theorem open_sample {r : Reach} {b0 base : Nat} {v : Value} {d : DataW H} {p : List MemPlace} (hv : Value.okWide Try.prog w r b0 27 v) (h : DataW.Trod enc Try.prog w base spare held 27 v d p) :
    ∃ a : Bool × Int × Option Addr × List Int × Nat, v = .agg #[.bool a.1, .int .i64 a.2.1, .slice a.2.2.1 a.2.2.2.1.length a.2.2.2.2] ∧ (-9223372036854775808 ≤ a.2.1 ∧ a.2.1 ≤ 9223372036854775807) ∧ Rd w .u32 a.2.2.1 a.2.2.2.1 := by
  obtain ⟨cs, rfl, hsz, hf⟩ := open_fields Try.underlying27 (by kernel_rfl) (by kernel_rfl) hv h
  obtain ⟨x0, y0, n0, h0, t0⟩ := hf 0 _ rfl
  obtain ⟨x1, y1, n1, h1, t1⟩ := hf 1 _ rfl
  obtain ⟨x2, y2, n2, h2, t2⟩ := hf 2 _ rfl
  obtain ⟨m0, e0, _⟩ := DataW.trod_bool Try.underlying4 t0
  obtain ⟨m1, e1, _, w1⟩ := DataW.trod_int Try.underlying3 t1
  obtain ⟨s, zs, cap, rfl, hr, _⟩ := open_rd Try.underlying25 Try.underlying40 (by kernel_rfl) t2
  simp only [List.cons.injEq, and_true] at e0 e1
  subst e0 e1
  refine ⟨(m0, m1, s, zs, cap), ?_, wf_i64 w1, hr⟩
  congr 1
  apply Array.ext_getElem?
  intro i
  match i with
  | 0 => exact h0
  | 1 => exact h1
  | 2 => exact h2
  | i + 3 => rw [Array.getElem?_eq_none (by rw [hsz]; show 3 ≤ i + 3; omega), Array.getElem?_eq_none (by show 3 ≤ i + 3; omega)]

theorem open_words {r : Reach} {b0 base : Nat} {v : Value} {d : DataW H} {p : List MemPlace} (hv : Value.okWide Try.prog w r b0 25 v) (h : DataW.Trod enc Try.prog w base spare held 25 v d p) :
    ∃ a : Option Addr × List Int × Nat, v = .slice a.1 a.2.1.length a.2.2 ∧ Rd w .u32 a.1 a.2.1 := by
  obtain ⟨s, zs, cap, rfl, hr, _⟩ := open_rdv Try.underlying25 Try.underlying40 (by kernel_rfl) hv h
  exact ⟨(s, zs, cap), rfl, hr⟩
end

theorem samplingOwn_walk' (c : Int × Int × Int × Int × Int) (s : Bool × Int × Option Addr × List Int × Nat) (tk : Int) (x : Option Addr × List Int × Nat) (w : World) (hc : -9223372036854775808 ≤ c.2.2.2.1 ∧ c.2.2.2.1 ≤ 9223372036854775807)
    (hs : (-9223372036854775808 ≤ s.2.1 ∧ s.2.1 ≤ 9223372036854775807) ∧ Rd w .u32 s.2.2.1 s.2.2.2.1) (htk : -9223372036854775808 ≤ tk ∧ tk ≤ 9223372036854775807) (hx : Rd w .u32 x.1 x.2.1) :
    Calls Try.prog 4 #[.agg #[.int .i64 c.1, .int .i64 c.2.1, .int .i64 c.2.2.1, .int .i64 c.2.2.2.1, .int .i64 c.2.2.2.2], .agg #[.bool s.1, .int .i64 s.2.1, .slice s.2.2.1 s.2.2.2.1.length s.2.2.2.2], .int .i64 tk, .slice x.1 x.2.1.length x.2.2] w
      fun e w' => e = .returned (.bool true) ∧ Below w.heap.size w w' :=
  samplingOwn_walk _ _ _ _ _ _ _ _ _ _ _ _ _ _ _ _ w hc rfl hs.2 rfl hx hs.1 htk

end Go.Proofs.Ytkcpmghlndnfbaa
