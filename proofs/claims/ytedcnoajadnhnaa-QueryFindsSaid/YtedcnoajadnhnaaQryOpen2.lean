
/-
  Rows of events and blocks, opened.
-/
import Derived.Test.YtedcnoajadnhnaaQryOpen
import Derived.Test.YtedcnoajadnhnaaQry14
namespace Go.Proofs.Ytedcnoajadnhnaa
open Go.ChangeShapes Go.WideShapes Go.RowKit Go.Deep
set_option linter.unusedVariables false

theorem open_events {H : Type} {enc : TypeId × Value → H} {w : World} {spare : Nat → Bool} {held : Bool} {base n : Nat} {x : Value} {y : DataW H × List MemPlace} (h : DataW.trod enc Try.prog w base spare held n 33 [x] = some y) :
    ∃ (s : Option Addr) (l : List (Int × Int × Int × Int × Int × Int)) (cap : Nat), x = .slice s l.length cap ∧ Hp.RdV w s (l.flatMap EvP.evc) ∧ (∀ el ∈ l, (0 ≤ el.1 ∧ el.1 ≤ 18446744073709551615) ∧ (-9223372036854775808 ≤ el.2.1 ∧ el.2.1 ≤ 9223372036854775807) ∧ (-9223372036854775808 ≤ el.2.2.1 ∧ el.2.2.1 ≤ 9223372036854775807) ∧ (-9223372036854775808 ≤ el.2.2.2.1 ∧ el.2.2.2.1 ≤ 9223372036854775807) ∧ (-9223372036854775808 ≤ el.2.2.2.2.1 ∧ el.2.2.2.2.1 ≤ 9223372036854775807) ∧ (-9223372036854775808 ≤ el.2.2.2.2.2 ∧ el.2.2.2.2.2 ≤ 9223372036854775807)) ∧ (s = none → l.length = 0 ∧ cap = 0) ∧ l.length ≤ cap ∧ cap ≤ maxLen := by
  obtain ⟨s, len, cap, rfl, hl, hm, hn, hc⟩ := open_rows Try.underlying33 Try.underlying26 (by kernel_rfl) (by kernel_rfl) h
  obtain ⟨l, hll, hr, hg⟩ := rows_choose (w := w) (α := Int × Int × Int × Int × Int × Int) (enc := EvP.evc) (size := 6) (G := fun el => (0 ≤ el.1 ∧ el.1 ≤ 18446744073709551615) ∧ (-9223372036854775808 ≤ el.2.1 ∧ el.2.1 ≤ 9223372036854775807) ∧ (-9223372036854775808 ≤ el.2.2.1 ∧ el.2.2.1 ≤ 9223372036854775807) ∧ (-9223372036854775808 ≤ el.2.2.2.1 ∧ el.2.2.2.1 ≤ 9223372036854775807) ∧ (-9223372036854775808 ≤ el.2.2.2.2.1 ∧ el.2.2.2.2.1 ≤ 9223372036854775807) ∧ (-9223372036854775808 ≤ el.2.2.2.2.2 ∧ el.2.2.2.2.2 ≤ 9223372036854775807)) (s := s) (len := len) (fun _ => rfl) (fun h0 => by
    obtain ⟨p, hp, hc⟩ := hc h0
    refine ⟨p, hp, fun i hi => ?_⟩
    obtain ⟨x0, y0, n0, h0, t0⟩ := hc i hi 0 _ rfl
    obtain ⟨x1, y1, n1, h1, t1⟩ := hc i hi 1 _ rfl
    obtain ⟨x2, y2, n2, h2, t2⟩ := hc i hi 2 _ rfl
    obtain ⟨x3, y3, n3, h3, t3⟩ := hc i hi 3 _ rfl
    obtain ⟨x4, y4, n4, h4, t4⟩ := hc i hi 4 _ rfl
    obtain ⟨x5, y5, n5, h5, t5⟩ := hc i hi 5 _ rfl
    obtain ⟨m0, e0, _, w0⟩ := DataW.trod_int Try.underlying22 t0
    obtain ⟨m1, e1, _, w1⟩ := DataW.trod_int Try.underlying3 t1
    obtain ⟨m2, e2, _, w2⟩ := DataW.trod_int Try.underlying3 t2
    obtain ⟨m3, e3, _, w3⟩ := DataW.trod_int Try.underlying3 t3
    obtain ⟨m4, e4, _, w4⟩ := DataW.trod_int Try.underlying3 t4
    obtain ⟨m5, e5, _, w5⟩ := DataW.trod_int Try.underlying3 t5
    simp only [List.cons.injEq, and_true] at e0 e1 e2 e3 e4 e5
    subst e0 e1 e2 e3 e4 e5
    refine ⟨(m0, m1, m2, m3, m4, m5), ⟨wf_u64 w0, wf_i64 w1, wf_i64 w2, wf_i64 w3, wf_i64 w4, wf_i64 w5⟩, fun j v hv => ?_⟩
    match j with
    | 0 => obtain rfl := Option.some.inj hv; exact h0
    | 1 => obtain rfl := Option.some.inj hv; exact h1
    | 2 => obtain rfl := Option.some.inj hv; exact h2
    | 3 => obtain rfl := Option.some.inj hv; exact h3
    | 4 => obtain rfl := Option.some.inj hv; exact h4
    | 5 => obtain rfl := Option.some.inj hv; exact h5
    | j + 6 => cases hv)
  subst hll
  exact ⟨s, l, cap, rfl, hr, hg, hn, hl, hm⟩
theorem open_blocks {H : Type} {enc : TypeId × Value → H} {w : World} {spare : Nat → Bool} {held : Bool} {base n : Nat} {x : Value} {y : DataW H × List MemPlace} (h : DataW.trod enc Try.prog w base spare held n 34 [x] = some y) :
    ∃ (s : Option Addr) (l : List (Int × Int × Int × Int × Int × Int × Int)) (cap : Nat), x = .slice s l.length cap ∧ Hp.RdV w s (l.flatMap QryP.bc) ∧ (∀ el ∈ l, (-9223372036854775808 ≤ el.1 ∧ el.1 ≤ 9223372036854775807) ∧ (-9223372036854775808 ≤ el.2.1 ∧ el.2.1 ≤ 9223372036854775807) ∧ (0 ≤ el.2.2.1 ∧ el.2.2.1 ≤ 18446744073709551615) ∧ (-9223372036854775808 ≤ el.2.2.2.1 ∧ el.2.2.2.1 ≤ 9223372036854775807) ∧ (-9223372036854775808 ≤ el.2.2.2.2.1 ∧ el.2.2.2.2.1 ≤ 9223372036854775807) ∧ (0 ≤ el.2.2.2.2.2.1 ∧ el.2.2.2.2.2.1 ≤ 18446744073709551615) ∧ (0 ≤ el.2.2.2.2.2.2 ∧ el.2.2.2.2.2.2 ≤ 18446744073709551615)) ∧ (s = none → l.length = 0 ∧ cap = 0) ∧ l.length ≤ cap ∧ cap ≤ maxLen := by
  obtain ⟨s, len, cap, rfl, hl, hm, hn, hc⟩ := open_rows Try.underlying34 Try.underlying28 (by kernel_rfl) (by kernel_rfl) h
  obtain ⟨l, hll, hr, hg⟩ := rows_choose (w := w) (α := Int × Int × Int × Int × Int × Int × Int) (enc := QryP.bc) (size := 7) (G := fun el => (-9223372036854775808 ≤ el.1 ∧ el.1 ≤ 9223372036854775807) ∧ (-9223372036854775808 ≤ el.2.1 ∧ el.2.1 ≤ 9223372036854775807) ∧ (0 ≤ el.2.2.1 ∧ el.2.2.1 ≤ 18446744073709551615) ∧ (-9223372036854775808 ≤ el.2.2.2.1 ∧ el.2.2.2.1 ≤ 9223372036854775807) ∧ (-9223372036854775808 ≤ el.2.2.2.2.1 ∧ el.2.2.2.2.1 ≤ 9223372036854775807) ∧ (0 ≤ el.2.2.2.2.2.1 ∧ el.2.2.2.2.2.1 ≤ 18446744073709551615) ∧ (0 ≤ el.2.2.2.2.2.2 ∧ el.2.2.2.2.2.2 ≤ 18446744073709551615)) (s := s) (len := len) (fun _ => rfl) (fun h0 => by
    obtain ⟨p, hp, hc⟩ := hc h0
    refine ⟨p, hp, fun i hi => ?_⟩
    obtain ⟨x0, y0, n0, h0, t0⟩ := hc i hi 0 _ rfl
    obtain ⟨x1, y1, n1, h1, t1⟩ := hc i hi 1 _ rfl
    obtain ⟨x2, y2, n2, h2, t2⟩ := hc i hi 2 _ rfl
    obtain ⟨x3, y3, n3, h3, t3⟩ := hc i hi 3 _ rfl
    obtain ⟨x4, y4, n4, h4, t4⟩ := hc i hi 4 _ rfl
    obtain ⟨x5, y5, n5, h5, t5⟩ := hc i hi 5 _ rfl
    obtain ⟨x6, y6, n6, h6, t6⟩ := hc i hi 6 _ rfl
    obtain ⟨m0, e0, _, w0⟩ := DataW.trod_int Try.underlying3 t0
    obtain ⟨m1, e1, _, w1⟩ := DataW.trod_int Try.underlying3 t1
    obtain ⟨m2, e2, _, w2⟩ := DataW.trod_int Try.underlying22 t2
    obtain ⟨m3, e3, _, w3⟩ := DataW.trod_int Try.underlying3 t3
    obtain ⟨m4, e4, _, w4⟩ := DataW.trod_int Try.underlying3 t4
    obtain ⟨m5, e5, _, w5⟩ := DataW.trod_int Try.underlying22 t5
    obtain ⟨m6, e6, _, w6⟩ := DataW.trod_int Try.underlying22 t6
    simp only [List.cons.injEq, and_true] at e0 e1 e2 e3 e4 e5 e6
    subst e0 e1 e2 e3 e4 e5 e6
    refine ⟨(m0, m1, m2, m3, m4, m5, m6), ⟨wf_i64 w0, wf_i64 w1, wf_u64 w2, wf_i64 w3, wf_i64 w4, wf_u64 w5, wf_u64 w6⟩, fun j v hv => ?_⟩
    match j with
    | 0 => obtain rfl := Option.some.inj hv; exact h0
    | 1 => obtain rfl := Option.some.inj hv; exact h1
    | 2 => obtain rfl := Option.some.inj hv; exact h2
    | 3 => obtain rfl := Option.some.inj hv; exact h3
    | 4 => obtain rfl := Option.some.inj hv; exact h4
    | 5 => obtain rfl := Option.some.inj hv; exact h5
    | 6 => obtain rfl := Option.some.inj hv; exact h6
    | j + 7 => cases hv)
  subst hll
  exact ⟨s, l, cap, rfl, hr, hg, hn, hl, hm⟩

theorem open_evrow {H : Type} {enc : TypeId × Value → H} {w : World} {spare : Nat → Bool} {held : Bool} {r : Reach} {b0 base : Nat} {v : Value} {d : DataW H} {p : List MemPlace} (hv : Value.okWide Try.prog w r b0 33 v) (h : DataW.Trod enc Try.prog w base spare held 33 v d p) :
    ∃ S : Option Addr × List (Int × Int × Int × Int × Int × Int) × Nat, v = .slice S.1 S.2.1.length S.2.2 ∧ (Hp.RdV w S.1 (S.2.1.flatMap EvP.evc) ∧ (∀ el ∈ S.2.1, (0 ≤ el.1 ∧ el.1 ≤ 18446744073709551615) ∧ (-9223372036854775808 ≤ el.2.1 ∧ el.2.1 ≤ 9223372036854775807) ∧ (-9223372036854775808 ≤ el.2.2.1 ∧ el.2.2.1 ≤ 9223372036854775807) ∧ (-9223372036854775808 ≤ el.2.2.2.1 ∧ el.2.2.2.1 ≤ 9223372036854775807) ∧ (-9223372036854775808 ≤ el.2.2.2.2.1 ∧ el.2.2.2.2.1 ≤ 9223372036854775807) ∧ (-9223372036854775808 ≤ el.2.2.2.2.2 ∧ el.2.2.2.2.2 ≤ 9223372036854775807)) ∧ (S.1 = none → S.2.1.length = 0 ∧ S.2.2 = 0) ∧ S.2.1.length ≤ S.2.2 ∧ S.2.2 ≤ maxLen) := by
  obtain ⟨n, y, h⟩ := trod_sv Try.underlying33 hv h
  obtain ⟨s, l, cap, rfl, hh⟩ := open_events h
  exact ⟨(s, l, cap), rfl, hh⟩


theorem open_bkrow {H : Type} {enc : TypeId × Value → H} {w : World} {spare : Nat → Bool} {held : Bool} {r : Reach} {b0 base : Nat} {v : Value} {d : DataW H} {p : List MemPlace} (hv : Value.okWide Try.prog w r b0 34 v) (h : DataW.Trod enc Try.prog w base spare held 34 v d p) :
    ∃ S : Option Addr × List (Int × Int × Int × Int × Int × Int × Int) × Nat, v = .slice S.1 S.2.1.length S.2.2 ∧ (Hp.RdV w S.1 (S.2.1.flatMap QryP.bc) ∧ (∀ el ∈ S.2.1, (-9223372036854775808 ≤ el.1 ∧ el.1 ≤ 9223372036854775807) ∧ (-9223372036854775808 ≤ el.2.1 ∧ el.2.1 ≤ 9223372036854775807) ∧ (0 ≤ el.2.2.1 ∧ el.2.2.1 ≤ 18446744073709551615) ∧ (-9223372036854775808 ≤ el.2.2.2.1 ∧ el.2.2.2.1 ≤ 9223372036854775807) ∧ (-9223372036854775808 ≤ el.2.2.2.2.1 ∧ el.2.2.2.2.1 ≤ 9223372036854775807) ∧ (0 ≤ el.2.2.2.2.2.1 ∧ el.2.2.2.2.2.1 ≤ 18446744073709551615) ∧ (0 ≤ el.2.2.2.2.2.2 ∧ el.2.2.2.2.2.2 ≤ 18446744073709551615)) ∧ (S.1 = none → S.2.1.length = 0 ∧ S.2.2 = 0) ∧ S.2.1.length ≤ S.2.2 ∧ S.2.2 ≤ maxLen) := by
  obtain ⟨n, y, h⟩ := trod_sv Try.underlying34 hv h
  obtain ⟨s, l, cap, rfl, hh⟩ := open_blocks h
  exact ⟨(s, l, cap), rfl, hh⟩

theorem queryRows_walk' (q : Int × Int × Int × Int × Int × Int × Int) (S : Option Addr × List (Int × Int × Int × Int × Int × Int) × Nat) (U : Option Addr × List (Int × Int × Int × Int × Int × Int × Int) × Nat) (w : World) (hq : (0 ≤ q.1 ∧ q.1 ≤ 18446744073709551615) ∧ (0 ≤ q.2.1 ∧ q.2.1 ≤ 18446744073709551615) ∧ (-9223372036854775808 ≤ q.2.2.1 ∧ q.2.2.1 ≤ 9223372036854775807) ∧ (-9223372036854775808 ≤ q.2.2.2.1 ∧ q.2.2.2.1 ≤ 9223372036854775807) ∧ (0 ≤ q.2.2.2.2.1 ∧ q.2.2.2.2.1 ≤ 18446744073709551615) ∧ (0 ≤ q.2.2.2.2.2.1 ∧ q.2.2.2.2.2.1 ≤ 18446744073709551615) ∧ (-9223372036854775808 ≤ q.2.2.2.2.2.2 ∧ q.2.2.2.2.2.2 ≤ 9223372036854775807)) (hS : (Hp.RdV w S.1 (S.2.1.flatMap EvP.evc) ∧ (∀ el ∈ S.2.1, (0 ≤ el.1 ∧ el.1 ≤ 18446744073709551615) ∧ (-9223372036854775808 ≤ el.2.1 ∧ el.2.1 ≤ 9223372036854775807) ∧ (-9223372036854775808 ≤ el.2.2.1 ∧ el.2.2.1 ≤ 9223372036854775807) ∧ (-9223372036854775808 ≤ el.2.2.2.1 ∧ el.2.2.2.1 ≤ 9223372036854775807) ∧ (-9223372036854775808 ≤ el.2.2.2.2.1 ∧ el.2.2.2.2.1 ≤ 9223372036854775807) ∧ (-9223372036854775808 ≤ el.2.2.2.2.2 ∧ el.2.2.2.2.2 ≤ 9223372036854775807)) ∧ (S.1 = none → S.2.1.length = 0 ∧ S.2.2 = 0) ∧ S.2.1.length ≤ S.2.2 ∧ S.2.2 ≤ maxLen)) (hU : (Hp.RdV w U.1 (U.2.1.flatMap QryP.bc) ∧ (∀ el ∈ U.2.1, (-9223372036854775808 ≤ el.1 ∧ el.1 ≤ 9223372036854775807) ∧ (-9223372036854775808 ≤ el.2.1 ∧ el.2.1 ≤ 9223372036854775807) ∧ (0 ≤ el.2.2.1 ∧ el.2.2.1 ≤ 18446744073709551615) ∧ (-9223372036854775808 ≤ el.2.2.2.1 ∧ el.2.2.2.1 ≤ 9223372036854775807) ∧ (-9223372036854775808 ≤ el.2.2.2.2.1 ∧ el.2.2.2.2.1 ≤ 9223372036854775807) ∧ (0 ≤ el.2.2.2.2.2.1 ∧ el.2.2.2.2.2.1 ≤ 18446744073709551615) ∧ (0 ≤ el.2.2.2.2.2.2 ∧ el.2.2.2.2.2.2 ≤ 18446744073709551615)) ∧ (U.1 = none → U.2.1.length = 0 ∧ U.2.2 = 0) ∧ U.2.1.length ≤ U.2.2 ∧ U.2.2 ≤ maxLen)) :
    Calls Try.prog 5 #[.agg #[.int .u64 q.1, .int .u64 q.2.1, .int .i64 q.2.2.1, .int .i64 q.2.2.2.1, .int .u64 q.2.2.2.2.1, .int .u64 q.2.2.2.2.2.1, .int .i64 q.2.2.2.2.2.2], .slice S.1 S.2.1.length S.2.2, .slice U.1 U.2.1.length U.2.2] w fun e w' => e = .returned (.bool true) ∧ Below w.heap.size w w' :=
  queryRows_walk q.1 q.2.1 q.2.2.1 q.2.2.2.1 q.2.2.2.2.1 q.2.2.2.2.2.1 q.2.2.2.2.2.2 S.1 S.2.1 S.2.1.length S.2.2 U.1 U.2.1 U.2.1.length U.2.2 w hq.1 hq.2.1 hq.2.2.1 hq.2.2.2.1 hq.2.2.2.2.1 hq.2.2.2.2.2.1 hq.2.2.2.2.2.2 rfl hS.2.2.2.1 (by have h1 := hS.2.2.2.1; have h2 := hS.2.2.2.2; unfold maxLen at h2; omega) hS.2.1 rfl hU.2.2.2.1 hU.2.1 hS.1 hU.1

end Go.Proofs.Ytedcnoajadnhnaa
