/-
  The arguments of layer 4's statements, opened.
-/
import Derived.Test.YtmhlichbblkccaaOpenR
import Derived.Test.YtmhlichbblkccaaEv10
import Derived.Test.YtmhlichbblkccaaEv11
namespace Go.Proofs.Ytmhlichbblkccaa
open Go.ChangeShapes Go.WideShapes Go.RowKit Go.Deep
set_option linter.unusedVariables false

theorem open_events {H : Type} {enc : TypeId × Value → H} {w : World} {spare : Nat → Bool} {held : Bool} {base n : Nat} {x : Value} {y : DataW H × List MemPlace} (h : DataW.trod enc Try.prog w base spare held n 35 [x] = some y) :
    ∃ (s : Option Addr) (l : List (Int × Int × Int × Int × Int × Int)) (cap : Nat), x = .slice s l.length cap ∧ Hp.RdV w s (l.flatMap EvP.evc) ∧ (∀ el ∈ l, (0 ≤ el.1 ∧ el.1 ≤ 18446744073709551615) ∧ (-9223372036854775808 ≤ el.2.1 ∧ el.2.1 ≤ 9223372036854775807) ∧ (-9223372036854775808 ≤ el.2.2.1 ∧ el.2.2.1 ≤ 9223372036854775807) ∧ (-9223372036854775808 ≤ el.2.2.2.1 ∧ el.2.2.2.1 ≤ 9223372036854775807) ∧ (-9223372036854775808 ≤ el.2.2.2.2.1 ∧ el.2.2.2.2.1 ≤ 9223372036854775807) ∧ (-9223372036854775808 ≤ el.2.2.2.2.2 ∧ el.2.2.2.2.2 ≤ 9223372036854775807)) ∧ (s = none → l.length = 0 ∧ cap = 0) ∧ l.length ≤ cap ∧ cap ≤ maxLen := by
  obtain ⟨s, len, cap, rfl, hl, hm, hn, hc⟩ := open_rows Try.underlying35 Try.underlying24 (by kernel_rfl) (by kernel_rfl) h
  obtain ⟨l, hll, hr, hg⟩ := rows_choose (w := w) (α := Int × Int × Int × Int × Int × Int) (enc := EvP.evc) (size := 6) (G := fun el => (0 ≤ el.1 ∧ el.1 ≤ 18446744073709551615) ∧ (-9223372036854775808 ≤ el.2.1 ∧ el.2.1 ≤ 9223372036854775807) ∧ (-9223372036854775808 ≤ el.2.2.1 ∧ el.2.2.1 ≤ 9223372036854775807) ∧ (-9223372036854775808 ≤ el.2.2.2.1 ∧ el.2.2.2.1 ≤ 9223372036854775807) ∧ (-9223372036854775808 ≤ el.2.2.2.2.1 ∧ el.2.2.2.2.1 ≤ 9223372036854775807) ∧ (-9223372036854775808 ≤ el.2.2.2.2.2 ∧ el.2.2.2.2.2 ≤ 9223372036854775807)) (s := s) (len := len) (fun _ => rfl) (fun h0 => by
    obtain ⟨p, hp, hc⟩ := hc h0
    refine ⟨p, hp, fun i hi => ?_⟩
    obtain ⟨x0, y0, n0, h0, t0⟩ := hc i hi 0 _ rfl
    obtain ⟨x1, y1, n1, h1, t1⟩ := hc i hi 1 _ rfl
    obtain ⟨x2, y2, n2, h2, t2⟩ := hc i hi 2 _ rfl
    obtain ⟨x3, y3, n3, h3, t3⟩ := hc i hi 3 _ rfl
    obtain ⟨x4, y4, n4, h4, t4⟩ := hc i hi 4 _ rfl
    obtain ⟨x5, y5, n5, h5, t5⟩ := hc i hi 5 _ rfl
    obtain ⟨m0, e0, _, w0⟩ := DataW.trod_int Try.underlying22 t0
    obtain ⟨m1, e1, _, w1⟩ := DataW.trod_int Try.underlying3 t1
    obtain ⟨m2, e2, _, w2⟩ := DataW.trod_int Try.underlying3 t2
    obtain ⟨m3, e3, _, w3⟩ := DataW.trod_int Try.underlying3 t3
    obtain ⟨m4, e4, _, w4⟩ := DataW.trod_int Try.underlying3 t4
    obtain ⟨m5, e5, _, w5⟩ := DataW.trod_int Try.underlying3 t5
    simp only [List.cons.injEq, and_true] at e0 e1 e2 e3 e4 e5
    subst e0 e1 e2 e3 e4 e5
    refine ⟨(m0, m1, m2, m3, m4, m5), ⟨wf_u64 w0, wf_i64 w1, wf_i64 w2, wf_i64 w3, wf_i64 w4, wf_i64 w5⟩, fun j v hv => ?_⟩
    match j with
    | 0 => obtain rfl := Option.some.inj hv; exact h0
    | 1 => obtain rfl := Option.some.inj hv; exact h1
    | 2 => obtain rfl := Option.some.inj hv; exact h2
    | 3 => obtain rfl := Option.some.inj hv; exact h3
    | 4 => obtain rfl := Option.some.inj hv; exact h4
    | 5 => obtain rfl := Option.some.inj hv; exact h5
    | j + 6 => cases hv)
  subst hll
  exact ⟨s, l, cap, rfl, hr, hg, hn, hl, hm⟩
theorem open_event {H : Type} {enc : TypeId × Value → H} {w : World} {spare : Nat → Bool} {held : Bool} {r : Reach} {b0 base : Nat} {v : Value} {d : DataW H} {p : List MemPlace} (hv : Value.okWide Try.prog w r b0 24 v) (h : DataW.Trod enc Try.prog w base spare held 24 v d p) :
    ∃ a : Int × Int × Int × Int × Int × Int, v = .agg #[.int .u64 a.1, .int .i64 a.2.1, .int .i64 a.2.2.1, .int .i64 a.2.2.2.1, .int .i64 a.2.2.2.2.1, .int .i64 a.2.2.2.2.2] ∧ (0 ≤ a.1 ∧ a.1 ≤ 18446744073709551615) ∧ (-9223372036854775808 ≤ a.2.1 ∧ a.2.1 ≤ 9223372036854775807) ∧ (-9223372036854775808 ≤ a.2.2.1 ∧ a.2.2.1 ≤ 9223372036854775807) ∧ (-9223372036854775808 ≤ a.2.2.2.1 ∧ a.2.2.2.1 ≤ 9223372036854775807) ∧ (-9223372036854775808 ≤ a.2.2.2.2.1 ∧ a.2.2.2.2.1 ≤ 9223372036854775807) ∧ (-9223372036854775808 ≤ a.2.2.2.2.2 ∧ a.2.2.2.2.2 ≤ 9223372036854775807) := by
  obtain ⟨cs, rfl, hsz, hf⟩ := open_fields Try.underlying24 (by kernel_rfl) (by kernel_rfl) hv h
  obtain ⟨x0, y0, n0, h0, t0⟩ := hf 0 _ rfl
  obtain ⟨x1, y1, n1, h1, t1⟩ := hf 1 _ rfl
  obtain ⟨x2, y2, n2, h2, t2⟩ := hf 2 _ rfl
  obtain ⟨x3, y3, n3, h3, t3⟩ := hf 3 _ rfl
  obtain ⟨x4, y4, n4, h4, t4⟩ := hf 4 _ rfl
  obtain ⟨x5, y5, n5, h5, t5⟩ := hf 5 _ rfl
  obtain ⟨m0, e0, _, w0⟩ := DataW.trod_int Try.underlying22 t0
  obtain ⟨m1, e1, _, w1⟩ := DataW.trod_int Try.underlying3 t1
  obtain ⟨m2, e2, _, w2⟩ := DataW.trod_int Try.underlying3 t2
  obtain ⟨m3, e3, _, w3⟩ := DataW.trod_int Try.underlying3 t3
  obtain ⟨m4, e4, _, w4⟩ := DataW.trod_int Try.underlying3 t4
  obtain ⟨m5, e5, _, w5⟩ := DataW.trod_int Try.underlying3 t5
  simp only [List.cons.injEq, and_true] at e0 e1 e2 e3 e4 e5
  subst e0 e1 e2 e3 e4 e5
  refine ⟨(m0, m1, m2, m3, m4, m5), ?_, wf_u64 w0, wf_i64 w1, wf_i64 w2, wf_i64 w3, wf_i64 w4, wf_i64 w5⟩
  congr 1
  apply Array.ext_getElem?
  intro i
  match i with
  | 0 => exact h0
  | 1 => exact h1
  | 2 => exact h2
  | 3 => exact h3
  | 4 => exact h4
  | 5 => exact h5
  | i + 6 => rw [Array.getElem?_eq_none (by rw [hsz]; show 6 ≤ i + 6; omega), Array.getElem?_eq_none (by show 6 ≤ i + 6; omega)]

section
variable {H : Type} {enc : TypeId × Value → H} {w : World} {spare : Nat → Bool} {held : Bool}
theorem open_evrow {r : Reach} {b0 base : Nat} {v : Value} {d : DataW H} {p : List MemPlace} (hv : Value.okWide Try.prog w r b0 35 v) (h : DataW.Trod enc Try.prog w base spare held 35 v d p) :
    ∃ S : Option Addr × List (Int × Int × Int × Int × Int × Int) × Nat, v = .slice S.1 S.2.1.length S.2.2 ∧ (Hp.RdV w S.1 (S.2.1.flatMap EvP.evc) ∧ (∀ el ∈ S.2.1, (0 ≤ el.1 ∧ el.1 ≤ 18446744073709551615) ∧ (-9223372036854775808 ≤ el.2.1 ∧ el.2.1 ≤ 9223372036854775807) ∧ (-9223372036854775808 ≤ el.2.2.1 ∧ el.2.2.1 ≤ 9223372036854775807) ∧ (-9223372036854775808 ≤ el.2.2.2.1 ∧ el.2.2.2.1 ≤ 9223372036854775807) ∧ (-9223372036854775808 ≤ el.2.2.2.2.1 ∧ el.2.2.2.2.1 ≤ 9223372036854775807) ∧ (-9223372036854775808 ≤ el.2.2.2.2.2 ∧ el.2.2.2.2.2 ≤ 9223372036854775807)) ∧ (S.1 = none → S.2.1.length = 0 ∧ S.2.2 = 0) ∧ S.2.1.length ≤ S.2.2 ∧ S.2.2 ≤ maxLen) := by
  obtain ⟨n, y, h⟩ := trod_sv Try.underlying35 hv h
  obtain ⟨s, l, cap, rfl, hh⟩ := open_events h
  exact ⟨(s, l, cap), rfl, hh⟩
theorem open_byte {r : Reach} {b0 base : Nat} {v : Value} {d : DataW H} {p : List MemPlace} (hv : Value.okWide Try.prog w r b0 5 v) (h : DataW.Trod enc Try.prog w base spare held 5 v d p) : ∃ a : Int, v = .int .u8 a ∧ 0 ≤ a ∧ a ≤ 255 := by
  obtain ⟨a, e, rfl, rfl, hw⟩ := open_int Try.underlying5 hv h
  exact ⟨a, e, wf_u8 hw⟩
end

theorem eventGets_walk' (z : ByteArray) (w : World) (hz : z.size ≤ 140737488351232) :
    Calls Try.prog 4 #[.string z] w fun e w' => e = .returned (.bool true) ∧ Below w.heap.size w w' :=
  eventGets_walk z w (by omega)

theorem eventOnly_walk' (z : ByteArray) (w : World) (hz : z.size ≤ 140737488351232) :
    Calls Try.prog 7 #[.string z] w fun e w' => e = .returned (.bool true) ∧ Below w.heap.size w w' :=
  eventOnly_walk z w (by omega)

theorem eventPuts_walk' (p : Int × Int × Int × Int × Int × Int) (k : Int) (w : World) (hp : (0 ≤ p.1 ∧ p.1 ≤ 18446744073709551615) ∧ (-9223372036854775808 ≤ p.2.1 ∧ p.2.1 ≤ 9223372036854775807) ∧ (-9223372036854775808 ≤ p.2.2.1 ∧ p.2.2.1 ≤ 9223372036854775807) ∧ (-9223372036854775808 ≤ p.2.2.2.1 ∧ p.2.2.2.1 ≤ 9223372036854775807) ∧ (-9223372036854775808 ≤ p.2.2.2.2.1 ∧ p.2.2.2.2.1 ≤ 9223372036854775807) ∧ (-9223372036854775808 ≤ p.2.2.2.2.2 ∧ p.2.2.2.2.2 ≤ 9223372036854775807)) (hk : (-9223372036854775808 ≤ k ∧ k ≤ 9223372036854775807)) :
    Calls Try.prog 3 #[.agg #[.int .u64 p.1, .int .i64 p.2.1, .int .i64 p.2.2.1, .int .i64 p.2.2.2.1, .int .i64 p.2.2.2.2.1, .int .i64 p.2.2.2.2.2], .int .i64 k] w fun e w' => e = .returned (.bool true) ∧ Below w.heap.size w w' :=
  eventPuts_walk p.1 p.2.1 p.2.2.1 p.2.2.2.1 p.2.2.2.2.1 p.2.2.2.2.2 k w hp.1 hp.2.1 hp.2.2.1 hp.2.2.2.1 hp.2.2.2.2.1 hp.2.2.2.2.2

theorem eventBack_walk' (p : Int × Int × Int × Int × Int × Int) (m : Int) (w : World) (hp : (0 ≤ p.1 ∧ p.1 ≤ 18446744073709551615) ∧ (-9223372036854775808 ≤ p.2.1 ∧ p.2.1 ≤ 9223372036854775807) ∧ (-9223372036854775808 ≤ p.2.2.1 ∧ p.2.2.1 ≤ 9223372036854775807) ∧ (-9223372036854775808 ≤ p.2.2.2.1 ∧ p.2.2.2.1 ≤ 9223372036854775807) ∧ (-9223372036854775808 ≤ p.2.2.2.2.1 ∧ p.2.2.2.2.1 ≤ 9223372036854775807) ∧ (-9223372036854775808 ≤ p.2.2.2.2.2 ∧ p.2.2.2.2.2 ≤ 9223372036854775807)) (hm : 0 ≤ m ∧ m ≤ 255) :
    Calls Try.prog 6 #[.agg #[.int .u64 p.1, .int .i64 p.2.1, .int .i64 p.2.2.1, .int .i64 p.2.2.2.1, .int .i64 p.2.2.2.2.1, .int .i64 p.2.2.2.2.2], .int .u8 m] w fun e w' => e = .returned (.bool true) ∧ Below w.heap.size w w' :=
  eventBack_walk p.1 p.2.1 p.2.2.1 p.2.2.2.1 p.2.2.2.2.1 p.2.2.2.2.2 m w hp.1 hp.2.1 hp.2.2.1 hp.2.2.2.1 hp.2.2.2.2.1 hp.2.2.2.2.2 hm

theorem eventRow_walk' (S : Option Addr × List (Int × Int × Int × Int × Int × Int) × Nat) (w : World) (hS : (Hp.RdV w S.1 (S.2.1.flatMap EvP.evc) ∧ (∀ el ∈ S.2.1, (0 ≤ el.1 ∧ el.1 ≤ 18446744073709551615) ∧ (-9223372036854775808 ≤ el.2.1 ∧ el.2.1 ≤ 9223372036854775807) ∧ (-9223372036854775808 ≤ el.2.2.1 ∧ el.2.2.1 ≤ 9223372036854775807) ∧ (-9223372036854775808 ≤ el.2.2.2.1 ∧ el.2.2.2.1 ≤ 9223372036854775807) ∧ (-9223372036854775808 ≤ el.2.2.2.2.1 ∧ el.2.2.2.2.1 ≤ 9223372036854775807) ∧ (-9223372036854775808 ≤ el.2.2.2.2.2 ∧ el.2.2.2.2.2 ≤ 9223372036854775807)) ∧ (S.1 = none → S.2.1.length = 0 ∧ S.2.2 = 0) ∧ S.2.1.length ≤ S.2.2 ∧ S.2.2 ≤ maxLen)) :
    Calls Try.prog 5 #[.slice S.1 S.2.1.length S.2.2] w fun e w' => e = .returned (.bool true) ∧ Below w.heap.size w w' :=
  eventRow_walk S.1 S.2.1 S.2.1.length S.2.2 w rfl hS.2.2.2.1 (by have h1 := hS.2.2.2.1; have h2 := hS.2.2.2.2; unfold maxLen at h2; omega) hS.2.1 hS.1

theorem eventRuns_walk' (S : Option Addr × List (Int × Int × Int × Int × Int × Int) × Nat) (U : Option Addr × List (Int × Int × Int × Int × Int × Int) × Nat) (w : World) (hS : (Hp.RdV w S.1 (S.2.1.flatMap EvP.evc) ∧ (∀ el ∈ S.2.1, (0 ≤ el.1 ∧ el.1 ≤ 18446744073709551615) ∧ (-9223372036854775808 ≤ el.2.1 ∧ el.2.1 ≤ 9223372036854775807) ∧ (-9223372036854775808 ≤ el.2.2.1 ∧ el.2.2.1 ≤ 9223372036854775807) ∧ (-9223372036854775808 ≤ el.2.2.2.1 ∧ el.2.2.2.1 ≤ 9223372036854775807) ∧ (-9223372036854775808 ≤ el.2.2.2.2.1 ∧ el.2.2.2.2.1 ≤ 9223372036854775807) ∧ (-9223372036854775808 ≤ el.2.2.2.2.2 ∧ el.2.2.2.2.2 ≤ 9223372036854775807)) ∧ (S.1 = none → S.2.1.length = 0 ∧ S.2.2 = 0) ∧ S.2.1.length ≤ S.2.2 ∧ S.2.2 ≤ maxLen)) (hU : (Hp.RdV w U.1 (U.2.1.flatMap EvP.evc) ∧ (∀ el ∈ U.2.1, (0 ≤ el.1 ∧ el.1 ≤ 18446744073709551615) ∧ (-9223372036854775808 ≤ el.2.1 ∧ el.2.1 ≤ 9223372036854775807) ∧ (-9223372036854775808 ≤ el.2.2.1 ∧ el.2.2.1 ≤ 9223372036854775807) ∧ (-9223372036854775808 ≤ el.2.2.2.1 ∧ el.2.2.2.1 ≤ 9223372036854775807) ∧ (-9223372036854775808 ≤ el.2.2.2.2.1 ∧ el.2.2.2.2.1 ≤ 9223372036854775807) ∧ (-9223372036854775808 ≤ el.2.2.2.2.2 ∧ el.2.2.2.2.2 ≤ 9223372036854775807)) ∧ (U.1 = none → U.2.1.length = 0 ∧ U.2.2 = 0) ∧ U.2.1.length ≤ U.2.2 ∧ U.2.2 ≤ maxLen)) :
    Calls Try.prog 8 #[.slice S.1 S.2.1.length S.2.2, .slice U.1 U.2.1.length U.2.2] w fun e w' => e = .returned (.bool true) ∧ Below w.heap.size w w' :=
  eventRuns_walk S.1 S.2.1 S.2.1.length S.2.2 U.1 U.2.1 U.2.1.length U.2.2 w rfl hS.2.2.2.1 (by have h1 := hS.2.2.2.1; have h2 := hS.2.2.2.2; unfold maxLen at h2; omega) hS.2.1 hS.2.2.1 hS.1 rfl hU.2.2.2.1 (by have h1 := hU.2.2.2.1; have h2 := hU.2.2.2.2; unfold maxLen at h2; omega) hU.2.1 hU.2.2.1 hU.1

end Go.Proofs.Ytmhlichbblkccaa
