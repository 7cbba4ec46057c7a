/-
  The arguments of layer 23's statements, opened.
-/
import Derived.Test.YtddfonekfopchaaOpenH
import Derived.Test.YtddfonekfopchaaQueOrder
namespace Go.Proofs.Ytddfonekfopchaa
open Go.ChangeShapes Go.WideShapes Go.RowKit Go.Deep
set_option linter.unusedVariables false

section
variable {H : Type} {enc : TypeId × Value → H} {w : World} {spare : Nat → Bool} {held : Bool}

theorem open_hdr {base n : Nat} {x : Value} {y : DataW H × List MemPlace} (h : DataW.trod enc Try.prog w base spare held n 28 [x] = some y) :
    ∃ a : QueP.Hd, x = QueP.hdr a ∧ QueP.Shape a ∧ Hp.RdV w a.1 (ints a.2.1) := by
  obtain ⟨s, zs, cap, rfl, hr, _, h1, h2, h3⟩ := open_nums Try.underlying28 Try.underlying48 (by kernel_rfl) h
  exact ⟨(s, zs, cap), rfl, ⟨h1, h2, by have h3' := h3; unfold maxLen at h3'; simp only; omega, h3⟩, hr⟩
theorem open_words {r : Reach} {b0 base : Nat} {v : Value} {d : DataW H} {p : List MemPlace} (hv : Value.okWide Try.prog w r b0 28 v) (h : DataW.Trod enc Try.prog w base spare held 28 v d p) :
    ∃ a : QueP.Hd, v = .slice a.1 a.2.1.length a.2.2 ∧ QueP.Shape a ∧ Hp.RdV w a.1 (ints a.2.1) := by
  obtain ⟨a, len, cap, rfl⟩ := okWide_slice Try.underlying28 hv
  obtain ⟨fuel, hf⟩ := h
  obtain ⟨x, hx, h1⟩ := open_hdr (by simpa [Value.cells] using hf)
  exact ⟨x, hx, h1⟩
theorem open_hdrs {base n : Nat} {t e : TypeId} {x : Value} {y : DataW H × List MemPlace} (ht : Try.prog.underlying t = some (.slice e)) (hC : Try.prog.cellsOf e = 1) (he : ∀ v z m, DataW.trod enc Try.prog w base spare held m e [v] = some z → ∃ a : QueP.Hd, v = QueP.hdr a ∧ QueP.Shape a ∧ Hp.RdV w a.1 (ints a.2.1)) (h : DataW.trod enc Try.prog w base spare held n t [x] = some y) :
    ∃ q : QueP.QL, x = .slice q.1 q.2.1.length q.2.2 ∧ QueP.QShape q ∧ QueP.QOk w q := by
  obtain ⟨s, len, cap, rfl, hl, hm, hn, hc⟩ := open_cells ht hC h
  obtain ⟨l, hl1, vs, hv, hr, hf⟩ := row_choose (w := w) (s := s) (len := len) (α := QueP.Hd) (F := fun a v => v = QueP.hdr a ∧ QueP.Shape a ∧ Hp.RdV w a.1 (ints a.2.1)) (fun v => ∃ (z : DataW H × List MemPlace) (m : Nat), DataW.trod enc Try.prog w base spare held m e [v] = some z) (by
    rintro v ⟨z, m, hz⟩
    exact he v z m hz) (fun h0 => by
    obtain ⟨p, hp, hc⟩ := hc h0
    exact ⟨p, hp, fun i hi => by obtain ⟨v, z, m, h1, h2⟩ := hc i hi; exact ⟨v, h1, z, m, h2⟩⟩)
  have e : vs = l.map QueP.hdr := List.ext_getElem (by simp [hl1, hv]) (fun i h1 h2 => by
    have := (hf i (by simpa using h2) h1).1
    simpa using this)
  subst e
  have hm' := hm
  unfold maxLen at hm'
  refine ⟨(s, l, cap), by rw [hl1], ⟨by simp only [hl1]; exact hn, by simp only [hl1]; exact hl, hm, by simp only [hl1]; omega, fun x hx => ?_⟩, hr, fun x hx => ?_⟩
  · obtain ⟨i, hi, rfl⟩ := List.getElem_of_mem hx
    exact (hf i hi (by simpa using hi)).2.1
  · obtain ⟨i, hi, rfl⟩ := List.getElem_of_mem hx
    exact (hf i hi (by simpa using hi)).2.2
theorem open_line {r : Reach} {b0 base : Nat} {v : Value} {d : DataW H} {p : List MemPlace} (hv : Value.okWide Try.prog w r b0 27 v) (h : DataW.Trod enc Try.prog w base spare held 27 v d p) :
    ∃ q : QueP.QL, v = .agg #[.slice q.1 q.2.1.length q.2.2] ∧ QueP.QShape q ∧ QueP.QOk w q := by
  obtain ⟨cs, rfl, hsz, hf⟩ := open_fields Try.underlying27 (by kernel_rfl) (by kernel_rfl) hv h
  obtain ⟨x0, y0, n0, h0, t0⟩ := hf 0 _ rfl
  obtain ⟨q, rfl, hq⟩ := open_hdrs Try.underlying25 (by kernel_rfl) (fun v z m h => open_hdr h) t0
  refine ⟨q, ?_, hq⟩
  congr 1
  apply Array.ext_getElem?
  intro i
  match i with
  | 0 => exact h0
  | i + 1 => rw [Array.getElem?_eq_none (by rw [hsz]; show 1 ≤ i + 1; omega), Array.getElem?_eq_none (by show 1 ≤ i + 1; omega)]
theorem open_step {base n : Nat} {x : Value} {y : DataW H × List MemPlace} (h : DataW.trod enc Try.prog w base spare held n 30 [x] = some y) :
    ∃ a : QueP.Hd, x = QueP.hdr a ∧ QueP.Shape a ∧ Hp.RdV w a.1 (ints a.2.1) := by
  obtain ⟨ys, m, _, _, hlen, hyl, hg⟩ := DataW.trod_struct Try.underlying30 h
  have h1 := hg 0 _ rfl
  have e : ([x].drop 0).take (Try.prog.cellsOf 28) = [x] := by
    rw [show Try.prog.cellsOf 28 = 1 by kernel_rfl]; rfl
  have h2 := h1
  rw [show ys[0]? = some (ys[0]'(by rw [hyl]; decide)) from List.getElem?_eq_getElem _] at h2
  exact open_hdr (by rw [← e]; exact h2)
theorem open_steps {r : Reach} {b0 base : Nat} {v : Value} {d : DataW H} {p : List MemPlace} (hv : Value.okWide Try.prog w r b0 24 v) (h : DataW.Trod enc Try.prog w base spare held 24 v d p) :
    ∃ q : QueP.QL, v = .slice q.1 q.2.1.length q.2.2 ∧ QueP.QShape q ∧ QueP.QOk w q := by
  obtain ⟨a, len, cap, rfl⟩ := okWide_slice Try.underlying24 hv
  obtain ⟨fuel, hf⟩ := h
  exact open_hdrs Try.underlying24 (by kernel_rfl) (fun v z m h => open_step h) (by simpa [Value.cells] using hf)
theorem open_chan {r : Reach} {b0 base : Nat} {v : Value} {d : DataW H} {p : List MemPlace} (hv : Value.okWide Try.prog w r b0 23 v) (h : DataW.Trod enc Try.prog w base spare held 23 v d p) :
    ∃ a : Int × Int × Int × Int × Int, v = .agg #[.int .i64 a.1, .int .i64 a.2.1, .int .i64 a.2.2.1, .int .i64 a.2.2.2.1, .int .i64 a.2.2.2.2] ∧ (-9223372036854775808 ≤ a.2.2.2.1 ∧ a.2.2.2.1 ≤ 9223372036854775807) ∧ (-9223372036854775808 ≤ a.2.2.2.2 ∧ a.2.2.2.2 ≤ 9223372036854775807) := by
  obtain ⟨cs, rfl, hsz, hf⟩ := open_fields Try.underlying23 (by kernel_rfl) (by kernel_rfl) hv h
  obtain ⟨x0, y0, n0, h0, t0⟩ := hf 0 _ rfl
  obtain ⟨x1, y1, n1, h1, t1⟩ := hf 1 _ rfl
  obtain ⟨x2, y2, n2, h2, t2⟩ := hf 2 _ rfl
  obtain ⟨x3, y3, n3, h3, t3⟩ := hf 3 _ rfl
  obtain ⟨x4, y4, n4, h4, t4⟩ := hf 4 _ rfl
  obtain ⟨m0, e0, _, w0⟩ := DataW.trod_int Try.underlying3 t0
  obtain ⟨m1, e1, _, w1⟩ := DataW.trod_int Try.underlying3 t1
  obtain ⟨m2, e2, _, w2⟩ := DataW.trod_int Try.underlying3 t2
  obtain ⟨m3, e3, _, w3⟩ := DataW.trod_int Try.underlying3 t3
  obtain ⟨m4, e4, _, w4⟩ := DataW.trod_int Try.underlying3 t4
  simp only [List.cons.injEq, and_true] at e0 e1 e2 e3 e4
  subst e0 e1 e2 e3 e4
  refine ⟨(m0, m1, m2, m3, m4), ?_, wf_i64 w3, wf_i64 w4⟩
  congr 1
  apply Array.ext_getElem?
  intro i
  match i with
  | 0 => exact h0
  | 1 => exact h1
  | 2 => exact h2
  | 3 => exact h3
  | 4 => exact h4
  | i + 5 => rw [Array.getElem?_eq_none (by rw [hsz]; show 5 ≤ i + 5; omega), Array.getElem?_eq_none (by show 5 ≤ i + 5; omega)]
end

theorem queuingOrder_walk' (c : Int × Int × Int × Int × Int) (q : QueP.QL) (w : World) (hc : (-9223372036854775808 ≤ c.2.2.2.1 ∧ c.2.2.2.1 ≤ 9223372036854775807) ∧ (-9223372036854775808 ≤ c.2.2.2.2 ∧ c.2.2.2.2 ≤ 9223372036854775807)) (hq : QueP.QShape q ∧ QueP.QOk w q) :
    Calls Try.prog 3 #[.agg #[.int .i64 c.1, .int .i64 c.2.1, .int .i64 c.2.2.1, .int .i64 c.2.2.2.1, .int .i64 c.2.2.2.2], .slice q.1 q.2.1.length q.2.2] w
      fun e w' => e = .returned (.bool true) ∧ Below w.heap.size w w' :=
  queuingOrder_walk _ _ _ _ _ _ _ _ _ w hc.1 hc.2 rfl hq.1.2.2.2.2 hq.2
theorem queuingKeeps_walk' (c : Int × Int × Int × Int × Int) (q : QueP.QL) (a b : QueP.Hd) (w : World) (hc : (-9223372036854775808 ≤ c.2.2.2.1 ∧ c.2.2.2.1 ≤ 9223372036854775807) ∧ (-9223372036854775808 ≤ c.2.2.2.2 ∧ c.2.2.2.2 ≤ 9223372036854775807)) (hq : QueP.QShape q ∧ QueP.QOk w q)
    (ha : QueP.Shape a ∧ Hp.RdV w a.1 (ints a.2.1)) (hb : QueP.Shape b ∧ Hp.RdV w b.1 (ints b.2.1)) :
    Calls Try.prog 4 #[.agg #[.int .i64 c.1, .int .i64 c.2.1, .int .i64 c.2.2.1, .int .i64 c.2.2.2.1, .int .i64 c.2.2.2.2], .agg #[.slice q.1 q.2.1.length q.2.2], .slice a.1 a.2.1.length a.2.2, .slice b.1 b.2.1.length b.2.2] w
      fun e w' => e = .returned (.bool true) ∧ Below w.heap.size w w' :=
  queuingKeeps_walk _ _ _ _ _ _ _ _ _ _ _ _ _ _ _ _ _ w hc.1 hc.2 rfl rfl rfl hq.1 ha.1 hb.1 hq.2 ha.2 hb.2

end Go.Proofs.Ytddfonekfopchaa
