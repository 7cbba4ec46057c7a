
/-
  A batch, opened.
-/
import Derived.Test.YtkjmhnbijbpmkaaDoorArr
import Derived.Test.YtkjmhnbijbpmkaaDoorBatAr
import Derived.Test.YtkjmhnbijbpmkaaDoorEv7
namespace Go.Proofs.YtkjmhnbijbpmkaaDoor
open Go.ChangeShapes Go.WideShapes Go.RowKit Go.Deep
set_option linter.unusedVariables false

theorem open_events {H : Type} {enc : TypeId × Value → H} {w : World} {spare : Nat → Bool} {held : Bool} {base n : Nat} {x : Value} {y : DataW H × List MemPlace} (h : DataW.trod enc Tryd.prog w base spare held n 23 [x] = some y) :
    ∃ (s : Option Addr) (l : List (Int × Int × Int × Int × Int × Int)) (cap : Nat), x = .slice s l.length cap ∧ Hp.RdV w s (l.flatMap EvP.evc) ∧ (∀ el ∈ l, (0 ≤ el.1 ∧ el.1 ≤ 18446744073709551615) ∧ (-9223372036854775808 ≤ el.2.1 ∧ el.2.1 ≤ 9223372036854775807) ∧ (-9223372036854775808 ≤ el.2.2.1 ∧ el.2.2.1 ≤ 9223372036854775807) ∧ (-9223372036854775808 ≤ el.2.2.2.1 ∧ el.2.2.2.1 ≤ 9223372036854775807) ∧ (-9223372036854775808 ≤ el.2.2.2.2.1 ∧ el.2.2.2.2.1 ≤ 9223372036854775807) ∧ (-9223372036854775808 ≤ el.2.2.2.2.2 ∧ el.2.2.2.2.2 ≤ 9223372036854775807)) ∧ (s = none → l.length = 0 ∧ cap = 0) ∧ l.length ≤ cap ∧ cap ≤ maxLen := by
  obtain ⟨s, len, cap, rfl, hl, hm, hn, hc⟩ := open_rows Tryd.underlying23 Tryd.underlying44 (by kernel_rfl) (by kernel_rfl) h
  obtain ⟨l, hll, hr, hg⟩ := rows_choose (w := w) (α := Int × Int × Int × Int × Int × Int) (enc := EvP.evc) (size := 6) (G := fun el => (0 ≤ el.1 ∧ el.1 ≤ 18446744073709551615) ∧ (-9223372036854775808 ≤ el.2.1 ∧ el.2.1 ≤ 9223372036854775807) ∧ (-9223372036854775808 ≤ el.2.2.1 ∧ el.2.2.1 ≤ 9223372036854775807) ∧ (-9223372036854775808 ≤ el.2.2.2.1 ∧ el.2.2.2.1 ≤ 9223372036854775807) ∧ (-9223372036854775808 ≤ el.2.2.2.2.1 ∧ el.2.2.2.2.1 ≤ 9223372036854775807) ∧ (-9223372036854775808 ≤ el.2.2.2.2.2 ∧ el.2.2.2.2.2 ≤ 9223372036854775807)) (s := s) (len := len) (fun _ => rfl) (fun h0 => by
    obtain ⟨p, hp, hc⟩ := hc h0
    refine ⟨p, hp, fun i hi => ?_⟩
    obtain ⟨x0, y0, n0, h0, t0⟩ := hc i hi 0 _ rfl
    obtain ⟨x1, y1, n1, h1, t1⟩ := hc i hi 1 _ rfl
    obtain ⟨x2, y2, n2, h2, t2⟩ := hc i hi 2 _ rfl
    obtain ⟨x3, y3, n3, h3, t3⟩ := hc i hi 3 _ rfl
    obtain ⟨x4, y4, n4, h4, t4⟩ := hc i hi 4 _ rfl
    obtain ⟨x5, y5, n5, h5, t5⟩ := hc i hi 5 _ rfl
    obtain ⟨m0, e0, _, w0⟩ := DataW.trod_int Tryd.underlying22 t0
    obtain ⟨m1, e1, _, w1⟩ := DataW.trod_int Tryd.underlying3 t1
    obtain ⟨m2, e2, _, w2⟩ := DataW.trod_int Tryd.underlying3 t2
    obtain ⟨m3, e3, _, w3⟩ := DataW.trod_int Tryd.underlying3 t3
    obtain ⟨m4, e4, _, w4⟩ := DataW.trod_int Tryd.underlying3 t4
    obtain ⟨m5, e5, _, w5⟩ := DataW.trod_int Tryd.underlying3 t5
    simp only [List.cons.injEq, and_true] at e0 e1 e2 e3 e4 e5
    subst e0 e1 e2 e3 e4 e5
    refine ⟨(m0, m1, m2, m3, m4, m5), ⟨wf_u64 w0, wf_i64 w1, wf_i64 w2, wf_i64 w3, wf_i64 w4, wf_i64 w5⟩, fun j v hv => ?_⟩
    match j with
    | 0 => obtain rfl := Option.some.inj hv; exact h0
    | 1 => obtain rfl := Option.some.inj hv; exact h1
    | 2 => obtain rfl := Option.some.inj hv; exact h2
    | 3 => obtain rfl := Option.some.inj hv; exact h3
    | 4 => obtain rfl := Option.some.inj hv; exact h4
    | 5 => obtain rfl := Option.some.inj hv; exact h5
    | j + 6 => cases hv)
  subst hll
  exact ⟨s, l, cap, rfl, hr, hg, hn, hl, hm⟩

/-- What an opened batch holds. -/
def BatFacts (w : World) (a : Int × (Option Addr × List (Int × Int × Int × Int × Int × Int) × Nat) × List UInt8) : Prop := (0 ≤ a.1 ∧ a.1 ≤ 18446744073709551615) ∧ (Hp.RdV w a.2.1.1 (a.2.1.2.1.flatMap EvP.evc) ∧ (∀ el ∈ a.2.1.2.1, (0 ≤ el.1 ∧ el.1 ≤ 18446744073709551615) ∧ (-9223372036854775808 ≤ el.2.1 ∧ el.2.1 ≤ 9223372036854775807) ∧ (-9223372036854775808 ≤ el.2.2.1 ∧ el.2.2.1 ≤ 9223372036854775807) ∧ (-9223372036854775808 ≤ el.2.2.2.1 ∧ el.2.2.2.1 ≤ 9223372036854775807) ∧ (-9223372036854775808 ≤ el.2.2.2.2.1 ∧ el.2.2.2.2.1 ≤ 9223372036854775807) ∧ (-9223372036854775808 ≤ el.2.2.2.2.2 ∧ el.2.2.2.2.2 ≤ 9223372036854775807)) ∧ (a.2.1.1 = none → a.2.1.2.1.length = 0 ∧ a.2.1.2.2 = 0) ∧ a.2.1.2.1.length ≤ a.2.1.2.2 ∧ a.2.1.2.2 ≤ maxLen) ∧ a.2.2.length = 32
section
variable {H : Type} {enc : TypeId × Value → H} {w : World} {spare : Nat → Bool} {held : Bool}
theorem open_batch {r : Reach} {b0 base : Nat} {v : Value} {d : DataW H} {p : List MemPlace} (hv : Value.okWide Tryd.prog w r b0 27 v) (h : DataW.Trod enc Tryd.prog w base spare held 27 v d p) :
    ∃ a : Int × (Option Addr × List (Int × Int × Int × Int × Int × Int) × Nat) × List UInt8, v = .agg (BatP.btA a.1 (.slice a.2.1.1 a.2.1.2.1.length a.2.1.2.2) a.2.2) ∧ BatFacts w a := by
  obtain ⟨cs, rfl, hsz⟩ := okWide_struct Tryd.underlying27 hv
  obtain ⟨fuel, hf⟩ := h
  obtain ⟨y0, n0, f0⟩ := trod_field Tryd.underlying27 hf 0 _ rfl
  obtain ⟨y1, n1, f1⟩ := trod_field Tryd.underlying27 hf 1 _ rfl
  obtain ⟨y2, n2, f2⟩ := trod_field Tryd.underlying27 hf 2 _ rfl
  have hl : (Value.agg cs).cells.toList.length = 34 := by show cs.toList.length = 34; rw [Array.length_toList, hsz]; kernel_rfl
  generalize hcl : (Value.agg cs).cells.toList = l at f0 f1 f2 hl
  have hcs : cs = l.toArray := by rw [← hcl]; show cs = cs.toList.toArray; simp
  match l, hl with
  | c0 :: c1 :: rr, hl =>
    have hrl : rr.length = 32 := by simpa using hl
    have k0 : Tryd.prog.cellsOf 22 = 1 := by kernel_rfl
    have k1 : Tryd.prog.cellsOf 23 = 1 := by kernel_rfl
    have k2 : Tryd.prog.cellsOf 25 = 32 := by kernel_rfl
    replace f0 : DataW.trod enc Tryd.prog w base spare held n0 22 [c0] = some y0 := by
      rw [show ([c0] : List Value) = ((c0 :: c1 :: rr).drop 0).take (Tryd.prog.cellsOf 22) by rw [k0]; rfl]; exact f0
    replace f1 : DataW.trod enc Tryd.prog w base spare held n1 23 [c1] = some y1 := by
      rw [show ([c1] : List Value) = ((c0 :: c1 :: rr).drop 1).take (Tryd.prog.cellsOf 23) by rw [k1]; rfl]; exact f1
    replace f2 : DataW.trod enc Tryd.prog w base spare held n2 25 rr = some y2 := by
      rw [show rr = ((c0 :: c1 :: rr).drop 2).take (Tryd.prog.cellsOf 25) by rw [k2]; show rr = rr.take 32; rw [← hrl, List.take_length]]; exact f2
    obtain ⟨m, q1, _, q3⟩ := DataW.trod_int Tryd.underlying22 f0
    obtain ⟨s, zs, c, e1, hr⟩ := open_events f1
    obtain ⟨bs, e2, e3, e4, _⟩ := trod_nums Tryd.underlying25 Tryd.underlying5 (by kernel_rfl) (by kernel_rfl) f2
    obtain ⟨pv, g1, g2⟩ := nums_bytes bs e4
    simp only [List.cons.injEq, and_true] at q1
    subst q1 e1
    refine ⟨(m, (s, zs, c), pv), ?_, wf_u64 q3, hr, g1.trans e3⟩
    rw [hcs, e2, g2]
    rfl
end
end Go.Proofs.YtkjmhnbijbpmkaaDoor
