/-
  The arguments of layer 24's statements, opened.
-/
import Derived.Test.YtmdagajbelfnoaaOpenR
import Derived.Test.YtmdagajbelfnoaaGraph18
namespace Go.Proofs.Ytmdagajbelfnoaa
open Go.ChangeShapes Go.WideShapes Go.RowKit Go.Deep
set_option linter.unusedVariables false
theorem exU64 (a : Int) (h : (Lit.int .u64 a).wf = true) : ∃ n : Nat, a = n ∧ n < 18446744073709551616 := by
  have := wf_u64 h
  exact ⟨a.toNat, by omega, by omega⟩

theorem open_parts {H : Type} {enc : TypeId × Value → H} {w : World} {spare : Nat → Bool} {held : Bool} {base n : Nat} {x : Value} {y : DataW H × List MemPlace} (h : DataW.trod enc Try.prog w base spare held n 22 [x] = some y) :
    ∃ (s : Option Addr) (l : List (Int × Int × Int × (Option Addr × Nat × Nat) × Int × Int)) (cap : Nat), x = .slice s l.length cap ∧ Hp.RdV w s (l.flatMap GraP.ptc) ∧ (∀ el ∈ l, (-9223372036854775808 ≤ el.1 ∧ el.1 ≤ 9223372036854775807) ∧ (-9223372036854775808 ≤ el.2.1 ∧ el.2.1 ≤ 9223372036854775807) ∧ (-9223372036854775808 ≤ el.2.2.1 ∧ el.2.2.1 ≤ 9223372036854775807) ∧ (el.2.2.2.1.2.1 ≤ el.2.2.2.1.2.2 ∧ el.2.2.2.1.2.2 ≤ maxLen ∧ (el.2.2.2.1.1 = none → el.2.2.2.1.2.1 = 0 ∧ el.2.2.2.1.2.2 = 0)) ∧ (-9223372036854775808 ≤ el.2.2.2.2.1 ∧ el.2.2.2.2.1 ≤ 9223372036854775807) ∧ (-9223372036854775808 ≤ el.2.2.2.2.2 ∧ el.2.2.2.2.2 ≤ 9223372036854775807)) ∧ (s = none → l.length = 0 ∧ cap = 0) ∧ l.length ≤ cap ∧ cap ≤ maxLen := by
  obtain ⟨s, len, cap, rfl, hl, hm, hn, hc⟩ := open_rows Try.underlying22 Try.underlying43 (by kernel_rfl) (by kernel_rfl) h
  obtain ⟨l, hll, hr, hg⟩ := rows_choose (w := w) (α := Int × Int × Int × (Option Addr × Nat × Nat) × Int × Int) (enc := GraP.ptc) (size := 6) (G := fun el => (-9223372036854775808 ≤ el.1 ∧ el.1 ≤ 9223372036854775807) ∧ (-9223372036854775808 ≤ el.2.1 ∧ el.2.1 ≤ 9223372036854775807) ∧ (-9223372036854775808 ≤ el.2.2.1 ∧ el.2.2.1 ≤ 9223372036854775807) ∧ (el.2.2.2.1.2.1 ≤ el.2.2.2.1.2.2 ∧ el.2.2.2.1.2.2 ≤ maxLen ∧ (el.2.2.2.1.1 = none → el.2.2.2.1.2.1 = 0 ∧ el.2.2.2.1.2.2 = 0)) ∧ (-9223372036854775808 ≤ el.2.2.2.2.1 ∧ el.2.2.2.2.1 ≤ 9223372036854775807) ∧ (-9223372036854775808 ≤ el.2.2.2.2.2 ∧ el.2.2.2.2.2 ≤ 9223372036854775807)) (s := s) (len := len) (fun _ => rfl) (fun h0 => by
    obtain ⟨p, hp, hc⟩ := hc h0
    refine ⟨p, hp, fun i hi => ?_⟩
    obtain ⟨x0, y0, n0, h0, t0⟩ := hc i hi 0 _ rfl
    obtain ⟨x1, y1, n1, h1, t1⟩ := hc i hi 1 _ rfl
    obtain ⟨x2, y2, n2, h2, t2⟩ := hc i hi 2 _ rfl
    obtain ⟨x3, y3, n3, h3, t3⟩ := hc i hi 3 _ rfl
    obtain ⟨x4, y4, n4, h4, t4⟩ := hc i hi 4 _ rfl
    obtain ⟨x5, y5, n5, h5, t5⟩ := hc i hi 5 _ rfl
    obtain ⟨m0, e0, _, w0⟩ := DataW.trod_int Try.underlying3 t0
    obtain ⟨m1, e1, _, w1⟩ := DataW.trod_int Try.underlying3 t1
    obtain ⟨m2, e2, _, w2⟩ := DataW.trod_int Try.underlying3 t2
    obtain ⟨s3, l3, c3, rfl, hl3, hm3, hn3⟩ := open_hdr Try.underlying41 t3
    obtain ⟨m4, e4, _, w4⟩ := DataW.trod_int Try.underlying3 t4
    obtain ⟨m5, e5, _, w5⟩ := DataW.trod_int Try.underlying3 t5
    simp only [List.cons.injEq, and_true] at e0 e1 e2 e4 e5
    subst e0 e1 e2 e4 e5
    refine ⟨(m0, m1, m2, (s3, l3, c3), m4, m5), ⟨wf_i64 w0, wf_i64 w1, wf_i64 w2, ⟨hl3, hm3, hn3⟩, wf_i64 w4, wf_i64 w5⟩, fun j v hv => ?_⟩
    match j with
    | 0 => obtain rfl := Option.some.inj hv; exact h0
    | 1 => obtain rfl := Option.some.inj hv; exact h1
    | 2 => obtain rfl := Option.some.inj hv; exact h2
    | 3 => obtain rfl := Option.some.inj hv; exact h3
    | 4 => obtain rfl := Option.some.inj hv; exact h4
    | 5 => obtain rfl := Option.some.inj hv; exact h5
    | j + 6 => cases hv)
  subst hll
  exact ⟨s, l, cap, rfl, hr, hg, hn, hl, hm⟩
theorem open_chans {H : Type} {enc : TypeId × Value → H} {w : World} {spare : Nat → Bool} {held : Bool} {base n : Nat} {x : Value} {y : DataW H × List MemPlace} (h : DataW.trod enc Try.prog w base spare held n 24 [x] = some y) :
    ∃ (s : Option Addr) (l : List (Int × Int × Int × Int × Int)) (cap : Nat), x = .slice s l.length cap ∧ Hp.RdV w s (l.flatMap GraP.chc) ∧ (∀ el ∈ l, (-9223372036854775808 ≤ el.1 ∧ el.1 ≤ 9223372036854775807) ∧ (-9223372036854775808 ≤ el.2.1 ∧ el.2.1 ≤ 9223372036854775807) ∧ (-9223372036854775808 ≤ el.2.2.1 ∧ el.2.2.1 ≤ 9223372036854775807) ∧ (-9223372036854775808 ≤ el.2.2.2.1 ∧ el.2.2.2.1 ≤ 9223372036854775807) ∧ (-9223372036854775808 ≤ el.2.2.2.2 ∧ el.2.2.2.2 ≤ 9223372036854775807)) ∧ (s = none → l.length = 0 ∧ cap = 0) ∧ l.length ≤ cap ∧ cap ≤ maxLen := by
  obtain ⟨s, len, cap, rfl, hl, hm, hn, hc⟩ := open_rows Try.underlying24 Try.underlying39 (by kernel_rfl) (by kernel_rfl) h
  obtain ⟨l, hll, hr, hg⟩ := rows_choose (w := w) (α := Int × Int × Int × Int × Int) (enc := GraP.chc) (size := 5) (G := fun el => (-9223372036854775808 ≤ el.1 ∧ el.1 ≤ 9223372036854775807) ∧ (-9223372036854775808 ≤ el.2.1 ∧ el.2.1 ≤ 9223372036854775807) ∧ (-9223372036854775808 ≤ el.2.2.1 ∧ el.2.2.1 ≤ 9223372036854775807) ∧ (-9223372036854775808 ≤ el.2.2.2.1 ∧ el.2.2.2.1 ≤ 9223372036854775807) ∧ (-9223372036854775808 ≤ el.2.2.2.2 ∧ el.2.2.2.2 ≤ 9223372036854775807)) (s := s) (len := len) (fun _ => rfl) (fun h0 => by
    obtain ⟨p, hp, hc⟩ := hc h0
    refine ⟨p, hp, fun i hi => ?_⟩
    obtain ⟨x0, y0, n0, h0, t0⟩ := hc i hi 0 _ rfl
    obtain ⟨x1, y1, n1, h1, t1⟩ := hc i hi 1 _ rfl
    obtain ⟨x2, y2, n2, h2, t2⟩ := hc i hi 2 _ rfl
    obtain ⟨x3, y3, n3, h3, t3⟩ := hc i hi 3 _ rfl
    obtain ⟨x4, y4, n4, h4, t4⟩ := hc i hi 4 _ rfl
    obtain ⟨m0, e0, _, w0⟩ := DataW.trod_int Try.underlying3 t0
    obtain ⟨m1, e1, _, w1⟩ := DataW.trod_int Try.underlying3 t1
    obtain ⟨m2, e2, _, w2⟩ := DataW.trod_int Try.underlying3 t2
    obtain ⟨m3, e3, _, w3⟩ := DataW.trod_int Try.underlying3 t3
    obtain ⟨m4, e4, _, w4⟩ := DataW.trod_int Try.underlying3 t4
    simp only [List.cons.injEq, and_true] at e0 e1 e2 e3 e4
    subst e0 e1 e2 e3 e4
    refine ⟨(m0, m1, m2, m3, m4), ⟨wf_i64 w0, wf_i64 w1, wf_i64 w2, wf_i64 w3, wf_i64 w4⟩, fun j v hv => ?_⟩
    match j with
    | 0 => obtain rfl := Option.some.inj hv; exact h0
    | 1 => obtain rfl := Option.some.inj hv; exact h1
    | 2 => obtain rfl := Option.some.inj hv; exact h2
    | 3 => obtain rfl := Option.some.inj hv; exact h3
    | 4 => obtain rfl := Option.some.inj hv; exact h4
    | j + 5 => cases hv)
  subst hll
  exact ⟨s, l, cap, rfl, hr, hg, hn, hl, hm⟩
theorem open_plan {H : Type} {enc : TypeId × Value → H} {w : World} {spare : Nat → Bool} {held : Bool} {r : Reach} {b0 base : Nat} {v : Value} {d : DataW H} {p : List MemPlace} (hv : Value.okWide Try.prog w r b0 26 v) (h : DataW.Trod enc Try.prog w base spare held 26 v d p) :
    ∃ a : Int × (Option Addr × List (Int × Int × Int × (Option Addr × Nat × Nat) × Int × Int) × Nat) × (Option Addr × Nat × Nat) × (Option Addr × List (Int × Int × Int × Int × Int) × Nat), v = .agg #[.int .i64 a.1, .slice a.2.1.1 a.2.1.2.1.length a.2.1.2.2, .slice a.2.2.1.1 a.2.2.1.2.1 a.2.2.1.2.2, .slice a.2.2.2.1 a.2.2.2.2.1.length a.2.2.2.2.2] ∧ (-9223372036854775808 ≤ a.1 ∧ a.1 ≤ 9223372036854775807) ∧ (Hp.RdV w a.2.1.1 (a.2.1.2.1.flatMap GraP.ptc) ∧ (∀ el ∈ a.2.1.2.1, (-9223372036854775808 ≤ el.1 ∧ el.1 ≤ 9223372036854775807) ∧ (-9223372036854775808 ≤ el.2.1 ∧ el.2.1 ≤ 9223372036854775807) ∧ (-9223372036854775808 ≤ el.2.2.1 ∧ el.2.2.1 ≤ 9223372036854775807) ∧ (el.2.2.2.1.2.1 ≤ el.2.2.2.1.2.2 ∧ el.2.2.2.1.2.2 ≤ maxLen ∧ (el.2.2.2.1.1 = none → el.2.2.2.1.2.1 = 0 ∧ el.2.2.2.1.2.2 = 0)) ∧ (-9223372036854775808 ≤ el.2.2.2.2.1 ∧ el.2.2.2.2.1 ≤ 9223372036854775807) ∧ (-9223372036854775808 ≤ el.2.2.2.2.2 ∧ el.2.2.2.2.2 ≤ 9223372036854775807)) ∧ (a.2.1.1 = none → a.2.1.2.1.length = 0 ∧ a.2.1.2.2 = 0) ∧ a.2.1.2.1.length ≤ a.2.1.2.2 ∧ a.2.1.2.2 ≤ maxLen) ∧ (a.2.2.1.2.1 ≤ a.2.2.1.2.2 ∧ a.2.2.1.2.2 ≤ maxLen ∧ (a.2.2.1.1 = none → a.2.2.1.2.1 = 0 ∧ a.2.2.1.2.2 = 0)) ∧ (Hp.RdV w a.2.2.2.1 (a.2.2.2.2.1.flatMap GraP.chc) ∧ (∀ el ∈ a.2.2.2.2.1, (-9223372036854775808 ≤ el.1 ∧ el.1 ≤ 9223372036854775807) ∧ (-9223372036854775808 ≤ el.2.1 ∧ el.2.1 ≤ 9223372036854775807) ∧ (-9223372036854775808 ≤ el.2.2.1 ∧ el.2.2.1 ≤ 9223372036854775807) ∧ (-9223372036854775808 ≤ el.2.2.2.1 ∧ el.2.2.2.1 ≤ 9223372036854775807) ∧ (-9223372036854775808 ≤ el.2.2.2.2 ∧ el.2.2.2.2 ≤ 9223372036854775807)) ∧ (a.2.2.2.1 = none → a.2.2.2.2.1.length = 0 ∧ a.2.2.2.2.2 = 0) ∧ a.2.2.2.2.1.length ≤ a.2.2.2.2.2 ∧ a.2.2.2.2.2 ≤ maxLen) := by
  obtain ⟨cs, rfl, hsz, hf⟩ := open_fields Try.underlying26 (by kernel_rfl) (by kernel_rfl) hv h
  obtain ⟨x0, y0, n0, h0, t0⟩ := hf 0 _ rfl
  obtain ⟨x1, y1, n1, h1, t1⟩ := hf 1 _ rfl
  obtain ⟨x2, y2, n2, h2, t2⟩ := hf 2 _ rfl
  obtain ⟨x3, y3, n3, h3, t3⟩ := hf 3 _ rfl
  obtain ⟨m0, e0, _, w0⟩ := DataW.trod_int Try.underlying3 t0
  obtain ⟨s1, zs1, c1, rfl, hr1⟩ := open_parts t1
  obtain ⟨s2, l2, c2, rfl, hl2, hm2, hn2⟩ := open_hdr Try.underlying23 t2
  obtain ⟨s3, zs3, c3, rfl, hr3⟩ := open_chans t3
  simp only [List.cons.injEq, and_true] at e0
  subst e0
  refine ⟨(m0, (s1, zs1, c1), (s2, l2, c2), (s3, zs3, c3)), ?_, wf_i64 w0, hr1, ⟨hl2, hm2, hn2⟩, hr3⟩
  congr 1
  apply Array.ext_getElem?
  intro i
  match i with
  | 0 => exact h0
  | 1 => exact h1
  | 2 => exact h2
  | 3 => exact h3
  | i + 4 => rw [Array.getElem?_eq_none (by rw [hsz]; show 4 ≤ i + 4; omega), Array.getElem?_eq_none (by show 4 ≤ i + 4; omega)]
theorem open_chan {H : Type} {enc : TypeId × Value → H} {w : World} {spare : Nat → Bool} {held : Bool} {r : Reach} {b0 base : Nat} {v : Value} {d : DataW H} {p : List MemPlace} (hv : Value.okWide Try.prog w r b0 39 v) (h : DataW.Trod enc Try.prog w base spare held 39 v d p) :
    ∃ a : Int × Int × Int × Int × Int, v = .agg #[.int .i64 a.1, .int .i64 a.2.1, .int .i64 a.2.2.1, .int .i64 a.2.2.2.1, .int .i64 a.2.2.2.2] ∧ (-9223372036854775808 ≤ a.1 ∧ a.1 ≤ 9223372036854775807) ∧ (-9223372036854775808 ≤ a.2.1 ∧ a.2.1 ≤ 9223372036854775807) ∧ (-9223372036854775808 ≤ a.2.2.1 ∧ a.2.2.1 ≤ 9223372036854775807) ∧ (-9223372036854775808 ≤ a.2.2.2.1 ∧ a.2.2.2.1 ≤ 9223372036854775807) ∧ (-9223372036854775808 ≤ a.2.2.2.2 ∧ a.2.2.2.2 ≤ 9223372036854775807) := by
  obtain ⟨cs, rfl, hsz, hf⟩ := open_fields Try.underlying39 (by kernel_rfl) (by kernel_rfl) hv h
  obtain ⟨x0, y0, n0, h0, t0⟩ := hf 0 _ rfl
  obtain ⟨x1, y1, n1, h1, t1⟩ := hf 1 _ rfl
  obtain ⟨x2, y2, n2, h2, t2⟩ := hf 2 _ rfl
  obtain ⟨x3, y3, n3, h3, t3⟩ := hf 3 _ rfl
  obtain ⟨x4, y4, n4, h4, t4⟩ := hf 4 _ rfl
  obtain ⟨m0, e0, _, w0⟩ := DataW.trod_int Try.underlying3 t0
  obtain ⟨m1, e1, _, w1⟩ := DataW.trod_int Try.underlying3 t1
  obtain ⟨m2, e2, _, w2⟩ := DataW.trod_int Try.underlying3 t2
  obtain ⟨m3, e3, _, w3⟩ := DataW.trod_int Try.underlying3 t3
  obtain ⟨m4, e4, _, w4⟩ := DataW.trod_int Try.underlying3 t4
  simp only [List.cons.injEq, and_true] at e0 e1 e2 e3 e4
  subst e0 e1 e2 e3 e4
  refine ⟨(m0, m1, m2, m3, m4), ?_, wf_i64 w0, wf_i64 w1, wf_i64 w2, wf_i64 w3, wf_i64 w4⟩
  congr 1
  apply Array.ext_getElem?
  intro i
  match i with
  | 0 => exact h0
  | 1 => exact h1
  | 2 => exact h2
  | 3 => exact h3
  | 4 => exact h4
  | i + 5 => rw [Array.getElem?_eq_none (by rw [hsz]; show 5 ≤ i + 5; omega), Array.getElem?_eq_none (by show 5 ≤ i + 5; omega)]
theorem graphSets_walk' (p : Int × (Option Addr × List (Int × Int × Int × (Option Addr × Nat × Nat) × Int × Int) × Nat) × (Option Addr × Nat × Nat) × (Option Addr × List (Int × Int × Int × Int × Int) × Nat)) (x : Int) (w : World) (hp : (-9223372036854775808 ≤ p.1 ∧ p.1 ≤ 9223372036854775807) ∧ (Hp.RdV w p.2.1.1 (p.2.1.2.1.flatMap GraP.ptc) ∧ (∀ el ∈ p.2.1.2.1, (-9223372036854775808 ≤ el.1 ∧ el.1 ≤ 9223372036854775807) ∧ (-9223372036854775808 ≤ el.2.1 ∧ el.2.1 ≤ 9223372036854775807) ∧ (-9223372036854775808 ≤ el.2.2.1 ∧ el.2.2.1 ≤ 9223372036854775807) ∧ (el.2.2.2.1.2.1 ≤ el.2.2.2.1.2.2 ∧ el.2.2.2.1.2.2 ≤ maxLen ∧ (el.2.2.2.1.1 = none → el.2.2.2.1.2.1 = 0 ∧ el.2.2.2.1.2.2 = 0)) ∧ (-9223372036854775808 ≤ el.2.2.2.2.1 ∧ el.2.2.2.2.1 ≤ 9223372036854775807) ∧ (-9223372036854775808 ≤ el.2.2.2.2.2 ∧ el.2.2.2.2.2 ≤ 9223372036854775807)) ∧ (p.2.1.1 = none → p.2.1.2.1.length = 0 ∧ p.2.1.2.2 = 0) ∧ p.2.1.2.1.length ≤ p.2.1.2.2 ∧ p.2.1.2.2 ≤ maxLen) ∧ (p.2.2.1.2.1 ≤ p.2.2.1.2.2 ∧ p.2.2.1.2.2 ≤ maxLen ∧ (p.2.2.1.1 = none → p.2.2.1.2.1 = 0 ∧ p.2.2.1.2.2 = 0)) ∧ (Hp.RdV w p.2.2.2.1 (p.2.2.2.2.1.flatMap GraP.chc) ∧ (∀ el ∈ p.2.2.2.2.1, (-9223372036854775808 ≤ el.1 ∧ el.1 ≤ 9223372036854775807) ∧ (-9223372036854775808 ≤ el.2.1 ∧ el.2.1 ≤ 9223372036854775807) ∧ (-9223372036854775808 ≤ el.2.2.1 ∧ el.2.2.1 ≤ 9223372036854775807) ∧ (-9223372036854775808 ≤ el.2.2.2.1 ∧ el.2.2.2.1 ≤ 9223372036854775807) ∧ (-9223372036854775808 ≤ el.2.2.2.2 ∧ el.2.2.2.2 ≤ 9223372036854775807)) ∧ (p.2.2.2.1 = none → p.2.2.2.2.1.length = 0 ∧ p.2.2.2.2.2 = 0) ∧ p.2.2.2.2.1.length ≤ p.2.2.2.2.2 ∧ p.2.2.2.2.2 ≤ maxLen)) (hx : (-9223372036854775808 ≤ x ∧ x ≤ 9223372036854775807)) :
    Calls Try.prog 3 #[.agg #[.int .i64 p.1, .slice p.2.1.1 p.2.1.2.1.length p.2.1.2.2, .slice p.2.2.1.1 p.2.2.1.2.1 p.2.2.1.2.2, .slice p.2.2.2.1 p.2.2.2.2.1.length p.2.2.2.2.2], .int .i64 x] w fun e w' => e = .returned (.bool true) ∧ Below w.heap.size w w' :=
  graphSets_walk p.1 p.2.1.1 p.2.1.2.1.length p.2.1.2.2 p.2.2.1.1 p.2.2.1.2.1 p.2.2.1.2.2 p.2.2.2.1 p.2.2.2.2.1.length p.2.2.2.2.2 x p.2.1.2.1 p.2.2.2.2.1 w (by have := hp.2.1.2.2.2.1; have := hp.2.1.2.2.2.2; unfold maxLen at *; omega) (by have := hp.2.2.2.2.2.2.1; have := hp.2.2.2.2.2.2.2; unfold maxLen at *; omega) rfl (fun c hc => ⟨(hp.2.2.2.2.1 c hc).2.1, (hp.2.2.2.2.1 c hc).2.2.1⟩) (by have := hp.2.2.1.1; have := hp.2.2.1.2.1; unfold maxLen at *; omega) rfl (fun c hc => by have := (hp.2.1.2.1 c hc).2.2.2.1; unfold maxLen at this; omega) hx hp.2.1.1 hp.2.2.2.1
theorem graphWays_walk' (p : Int × (Option Addr × List (Int × Int × Int × (Option Addr × Nat × Nat) × Int × Int) × Nat) × (Option Addr × Nat × Nat) × (Option Addr × List (Int × Int × Int × Int × Int) × Nat)) (a b : Int) (s : Nat) (w : World) (hp : (-9223372036854775808 ≤ p.1 ∧ p.1 ≤ 9223372036854775807) ∧ (Hp.RdV w p.2.1.1 (p.2.1.2.1.flatMap GraP.ptc) ∧ (∀ el ∈ p.2.1.2.1, (-9223372036854775808 ≤ el.1 ∧ el.1 ≤ 9223372036854775807) ∧ (-9223372036854775808 ≤ el.2.1 ∧ el.2.1 ≤ 9223372036854775807) ∧ (-9223372036854775808 ≤ el.2.2.1 ∧ el.2.2.1 ≤ 9223372036854775807) ∧ (el.2.2.2.1.2.1 ≤ el.2.2.2.1.2.2 ∧ el.2.2.2.1.2.2 ≤ maxLen ∧ (el.2.2.2.1.1 = none → el.2.2.2.1.2.1 = 0 ∧ el.2.2.2.1.2.2 = 0)) ∧ (-9223372036854775808 ≤ el.2.2.2.2.1 ∧ el.2.2.2.2.1 ≤ 9223372036854775807) ∧ (-9223372036854775808 ≤ el.2.2.2.2.2 ∧ el.2.2.2.2.2 ≤ 9223372036854775807)) ∧ (p.2.1.1 = none → p.2.1.2.1.length = 0 ∧ p.2.1.2.2 = 0) ∧ p.2.1.2.1.length ≤ p.2.1.2.2 ∧ p.2.1.2.2 ≤ maxLen) ∧ (p.2.2.1.2.1 ≤ p.2.2.1.2.2 ∧ p.2.2.1.2.2 ≤ maxLen ∧ (p.2.2.1.1 = none → p.2.2.1.2.1 = 0 ∧ p.2.2.1.2.2 = 0)) ∧ (Hp.RdV w p.2.2.2.1 (p.2.2.2.2.1.flatMap GraP.chc) ∧ (∀ el ∈ p.2.2.2.2.1, (-9223372036854775808 ≤ el.1 ∧ el.1 ≤ 9223372036854775807) ∧ (-9223372036854775808 ≤ el.2.1 ∧ el.2.1 ≤ 9223372036854775807) ∧ (-9223372036854775808 ≤ el.2.2.1 ∧ el.2.2.1 ≤ 9223372036854775807) ∧ (-9223372036854775808 ≤ el.2.2.2.1 ∧ el.2.2.2.1 ≤ 9223372036854775807) ∧ (-9223372036854775808 ≤ el.2.2.2.2 ∧ el.2.2.2.2 ≤ 9223372036854775807)) ∧ (p.2.2.2.1 = none → p.2.2.2.2.1.length = 0 ∧ p.2.2.2.2.2 = 0) ∧ p.2.2.2.2.1.length ≤ p.2.2.2.2.2 ∧ p.2.2.2.2.2 ≤ maxLen)) (ha : (-9223372036854775808 ≤ a ∧ a ≤ 9223372036854775807)) (hb : (-9223372036854775808 ≤ b ∧ b ≤ 9223372036854775807)) (hs : s < 18446744073709551616) :
    Calls Try.prog 4 #[.agg #[.int .i64 p.1, .slice p.2.1.1 p.2.1.2.1.length p.2.1.2.2, .slice p.2.2.1.1 p.2.2.1.2.1 p.2.2.1.2.2, .slice p.2.2.2.1 p.2.2.2.2.1.length p.2.2.2.2.2], .int .i64 a, .int .i64 b, .int .u64 s] w fun e w' => e = .returned (.bool true) ∧ Below w.heap.size w w' :=
  graphWays_walk p.1 p.2.1.1 p.2.1.2.1.length p.2.1.2.2 p.2.2.1.1 p.2.2.1.2.1 p.2.2.1.2.2 p.2.2.2.1 p.2.2.2.2.1.length p.2.2.2.2.2 a b s p.2.1.2.1 p.2.2.2.2.1 w (by have := hp.2.1.2.2.2.1; have := hp.2.1.2.2.2.2; unfold maxLen at *; omega) (by have := hp.2.2.2.2.2.2.1; have := hp.2.2.2.2.2.2.2; unfold maxLen at *; omega) rfl (fun c hc => ⟨(hp.2.2.2.2.1 c hc).2.1, (hp.2.2.2.2.1 c hc).2.2.1⟩) (by have := hp.2.2.1.1; have := hp.2.2.1.2.1; unfold maxLen at *; omega) rfl (fun c hc => by have := (hp.2.1.2.1 c hc).2.2.2.1; unfold maxLen at this; omega) hp.2.1.1 hp.2.2.2.1 ha hb hs
theorem graphTurns_walk' (p : Int × (Option Addr × List (Int × Int × Int × (Option Addr × Nat × Nat) × Int × Int) × Nat) × (Option Addr × Nat × Nat) × (Option Addr × List (Int × Int × Int × Int × Int) × Nat)) (a b : Int) (w : World) (hp : (-9223372036854775808 ≤ p.1 ∧ p.1 ≤ 9223372036854775807) ∧ (Hp.RdV w p.2.1.1 (p.2.1.2.1.flatMap GraP.ptc) ∧ (∀ el ∈ p.2.1.2.1, (-9223372036854775808 ≤ el.1 ∧ el.1 ≤ 9223372036854775807) ∧ (-9223372036854775808 ≤ el.2.1 ∧ el.2.1 ≤ 9223372036854775807) ∧ (-9223372036854775808 ≤ el.2.2.1 ∧ el.2.2.1 ≤ 9223372036854775807) ∧ (el.2.2.2.1.2.1 ≤ el.2.2.2.1.2.2 ∧ el.2.2.2.1.2.2 ≤ maxLen ∧ (el.2.2.2.1.1 = none → el.2.2.2.1.2.1 = 0 ∧ el.2.2.2.1.2.2 = 0)) ∧ (-9223372036854775808 ≤ el.2.2.2.2.1 ∧ el.2.2.2.2.1 ≤ 9223372036854775807) ∧ (-9223372036854775808 ≤ el.2.2.2.2.2 ∧ el.2.2.2.2.2 ≤ 9223372036854775807)) ∧ (p.2.1.1 = none → p.2.1.2.1.length = 0 ∧ p.2.1.2.2 = 0) ∧ p.2.1.2.1.length ≤ p.2.1.2.2 ∧ p.2.1.2.2 ≤ maxLen) ∧ (p.2.2.1.2.1 ≤ p.2.2.1.2.2 ∧ p.2.2.1.2.2 ≤ maxLen ∧ (p.2.2.1.1 = none → p.2.2.1.2.1 = 0 ∧ p.2.2.1.2.2 = 0)) ∧ (Hp.RdV w p.2.2.2.1 (p.2.2.2.2.1.flatMap GraP.chc) ∧ (∀ el ∈ p.2.2.2.2.1, (-9223372036854775808 ≤ el.1 ∧ el.1 ≤ 9223372036854775807) ∧ (-9223372036854775808 ≤ el.2.1 ∧ el.2.1 ≤ 9223372036854775807) ∧ (-9223372036854775808 ≤ el.2.2.1 ∧ el.2.2.1 ≤ 9223372036854775807) ∧ (-9223372036854775808 ≤ el.2.2.2.1 ∧ el.2.2.2.1 ≤ 9223372036854775807) ∧ (-9223372036854775808 ≤ el.2.2.2.2 ∧ el.2.2.2.2 ≤ 9223372036854775807)) ∧ (p.2.2.2.1 = none → p.2.2.2.2.1.length = 0 ∧ p.2.2.2.2.2 = 0) ∧ p.2.2.2.2.1.length ≤ p.2.2.2.2.2 ∧ p.2.2.2.2.2 ≤ maxLen)) (ha : (-9223372036854775808 ≤ a ∧ a ≤ 9223372036854775807)) (hb : (-9223372036854775808 ≤ b ∧ b ≤ 9223372036854775807)) :
    Calls Try.prog 5 #[.agg #[.int .i64 p.1, .slice p.2.1.1 p.2.1.2.1.length p.2.1.2.2, .slice p.2.2.1.1 p.2.2.1.2.1 p.2.2.1.2.2, .slice p.2.2.2.1 p.2.2.2.2.1.length p.2.2.2.2.2], .int .i64 a, .int .i64 b] w fun e w' => e = .returned (.bool true) ∧ Below w.heap.size w w' :=
  graphTurns_walk p.1 p.2.1.1 p.2.1.2.1.length p.2.1.2.2 p.2.2.1.1 p.2.2.1.2.1 p.2.2.1.2.2 p.2.2.2.1 p.2.2.2.2.1.length p.2.2.2.2.2 a b p.2.1.2.1 p.2.2.2.2.1 w (by have := hp.2.1.2.2.2.1; have := hp.2.1.2.2.2.2; unfold maxLen at *; omega) (by have := hp.2.2.2.2.2.2.1; have := hp.2.2.2.2.2.2.2; unfold maxLen at *; omega) rfl (fun c hc => ⟨(hp.2.2.2.2.1 c hc).2.1, (hp.2.2.2.2.1 c hc).2.2.1⟩) (by have := hp.2.2.1.1; have := hp.2.2.1.2.1; unfold maxLen at *; omega) rfl (fun c hc => by have := (hp.2.1.2.1 c hc).2.2.2.1; unfold maxLen at this; omega) hp.2.1.1 hp.2.2.2.1 ha hb
theorem graphLeast_walk' (p : Int × (Option Addr × List (Int × Int × Int × (Option Addr × Nat × Nat) × Int × Int) × Nat) × (Option Addr × Nat × Nat) × (Option Addr × List (Int × Int × Int × Int × Int) × Nat)) (a : Int) (s : Nat) (w : World) (hp : (-9223372036854775808 ≤ p.1 ∧ p.1 ≤ 9223372036854775807) ∧ (Hp.RdV w p.2.1.1 (p.2.1.2.1.flatMap GraP.ptc) ∧ (∀ el ∈ p.2.1.2.1, (-9223372036854775808 ≤ el.1 ∧ el.1 ≤ 9223372036854775807) ∧ (-9223372036854775808 ≤ el.2.1 ∧ el.2.1 ≤ 9223372036854775807) ∧ (-9223372036854775808 ≤ el.2.2.1 ∧ el.2.2.1 ≤ 9223372036854775807) ∧ (el.2.2.2.1.2.1 ≤ el.2.2.2.1.2.2 ∧ el.2.2.2.1.2.2 ≤ maxLen ∧ (el.2.2.2.1.1 = none → el.2.2.2.1.2.1 = 0 ∧ el.2.2.2.1.2.2 = 0)) ∧ (-9223372036854775808 ≤ el.2.2.2.2.1 ∧ el.2.2.2.2.1 ≤ 9223372036854775807) ∧ (-9223372036854775808 ≤ el.2.2.2.2.2 ∧ el.2.2.2.2.2 ≤ 9223372036854775807)) ∧ (p.2.1.1 = none → p.2.1.2.1.length = 0 ∧ p.2.1.2.2 = 0) ∧ p.2.1.2.1.length ≤ p.2.1.2.2 ∧ p.2.1.2.2 ≤ maxLen) ∧ (p.2.2.1.2.1 ≤ p.2.2.1.2.2 ∧ p.2.2.1.2.2 ≤ maxLen ∧ (p.2.2.1.1 = none → p.2.2.1.2.1 = 0 ∧ p.2.2.1.2.2 = 0)) ∧ (Hp.RdV w p.2.2.2.1 (p.2.2.2.2.1.flatMap GraP.chc) ∧ (∀ el ∈ p.2.2.2.2.1, (-9223372036854775808 ≤ el.1 ∧ el.1 ≤ 9223372036854775807) ∧ (-9223372036854775808 ≤ el.2.1 ∧ el.2.1 ≤ 9223372036854775807) ∧ (-9223372036854775808 ≤ el.2.2.1 ∧ el.2.2.1 ≤ 9223372036854775807) ∧ (-9223372036854775808 ≤ el.2.2.2.1 ∧ el.2.2.2.1 ≤ 9223372036854775807) ∧ (-9223372036854775808 ≤ el.2.2.2.2 ∧ el.2.2.2.2 ≤ 9223372036854775807)) ∧ (p.2.2.2.1 = none → p.2.2.2.2.1.length = 0 ∧ p.2.2.2.2.2 = 0) ∧ p.2.2.2.2.1.length ≤ p.2.2.2.2.2 ∧ p.2.2.2.2.2 ≤ maxLen)) (ha : (-9223372036854775808 ≤ a ∧ a ≤ 9223372036854775807)) (hs : s < 18446744073709551616) :
    Calls Try.prog 6 #[.agg #[.int .i64 p.1, .slice p.2.1.1 p.2.1.2.1.length p.2.1.2.2, .slice p.2.2.1.1 p.2.2.1.2.1 p.2.2.1.2.2, .slice p.2.2.2.1 p.2.2.2.2.1.length p.2.2.2.2.2], .int .i64 a, .int .u64 s] w fun e w' => e = .returned (.bool true) ∧ Below w.heap.size w w' :=
  graphLeast_walk p.1 p.2.1.1 p.2.1.2.1.length p.2.1.2.2 p.2.2.1.1 p.2.2.1.2.1 p.2.2.1.2.2 p.2.2.2.1 p.2.2.2.2.1.length p.2.2.2.2.2 a s p.2.1.2.1 p.2.2.2.2.1 w (by have := hp.2.1.2.2.2.1; have := hp.2.1.2.2.2.2; unfold maxLen at *; omega) (by have := hp.2.2.2.2.2.2.1; have := hp.2.2.2.2.2.2.2; unfold maxLen at *; omega) rfl (fun c hc => ⟨(hp.2.2.2.2.1 c hc).2.1, (hp.2.2.2.2.1 c hc).2.2.1⟩) (by have := hp.2.2.1.1; have := hp.2.2.1.2.1; unfold maxLen at *; omega) rfl (fun c hc => by have := (hp.2.1.2.1 c hc).2.2.2.1; unfold maxLen at this; omega) hp.2.1.1 hp.2.2.2.1 ha hs
theorem graphNear_walk' (p : Int × (Option Addr × List (Int × Int × Int × (Option Addr × Nat × Nat) × Int × Int) × Nat) × (Option Addr × Nat × Nat) × (Option Addr × List (Int × Int × Int × Int × Int) × Nat)) (a b c : Int) (m : Int × Int × Int × Int × Int) (w : World) (hp : (-9223372036854775808 ≤ p.1 ∧ p.1 ≤ 9223372036854775807) ∧ (Hp.RdV w p.2.1.1 (p.2.1.2.1.flatMap GraP.ptc) ∧ (∀ el ∈ p.2.1.2.1, (-9223372036854775808 ≤ el.1 ∧ el.1 ≤ 9223372036854775807) ∧ (-9223372036854775808 ≤ el.2.1 ∧ el.2.1 ≤ 9223372036854775807) ∧ (-9223372036854775808 ≤ el.2.2.1 ∧ el.2.2.1 ≤ 9223372036854775807) ∧ (el.2.2.2.1.2.1 ≤ el.2.2.2.1.2.2 ∧ el.2.2.2.1.2.2 ≤ maxLen ∧ (el.2.2.2.1.1 = none → el.2.2.2.1.2.1 = 0 ∧ el.2.2.2.1.2.2 = 0)) ∧ (-9223372036854775808 ≤ el.2.2.2.2.1 ∧ el.2.2.2.2.1 ≤ 9223372036854775807) ∧ (-9223372036854775808 ≤ el.2.2.2.2.2 ∧ el.2.2.2.2.2 ≤ 9223372036854775807)) ∧ (p.2.1.1 = none → p.2.1.2.1.length = 0 ∧ p.2.1.2.2 = 0) ∧ p.2.1.2.1.length ≤ p.2.1.2.2 ∧ p.2.1.2.2 ≤ maxLen) ∧ (p.2.2.1.2.1 ≤ p.2.2.1.2.2 ∧ p.2.2.1.2.2 ≤ maxLen ∧ (p.2.2.1.1 = none → p.2.2.1.2.1 = 0 ∧ p.2.2.1.2.2 = 0)) ∧ (Hp.RdV w p.2.2.2.1 (p.2.2.2.2.1.flatMap GraP.chc) ∧ (∀ el ∈ p.2.2.2.2.1, (-9223372036854775808 ≤ el.1 ∧ el.1 ≤ 9223372036854775807) ∧ (-9223372036854775808 ≤ el.2.1 ∧ el.2.1 ≤ 9223372036854775807) ∧ (-9223372036854775808 ≤ el.2.2.1 ∧ el.2.2.1 ≤ 9223372036854775807) ∧ (-9223372036854775808 ≤ el.2.2.2.1 ∧ el.2.2.2.1 ≤ 9223372036854775807) ∧ (-9223372036854775808 ≤ el.2.2.2.2 ∧ el.2.2.2.2 ≤ 9223372036854775807)) ∧ (p.2.2.2.1 = none → p.2.2.2.2.1.length = 0 ∧ p.2.2.2.2.2 = 0) ∧ p.2.2.2.2.1.length ≤ p.2.2.2.2.2 ∧ p.2.2.2.2.2 ≤ maxLen)) (ha : (-9223372036854775808 ≤ a ∧ a ≤ 9223372036854775807)) (hb : (-9223372036854775808 ≤ b ∧ b ≤ 9223372036854775807)) (hc : (-9223372036854775808 ≤ c ∧ c ≤ 9223372036854775807)) (hm : (-9223372036854775808 ≤ m.1 ∧ m.1 ≤ 9223372036854775807) ∧ (-9223372036854775808 ≤ m.2.1 ∧ m.2.1 ≤ 9223372036854775807) ∧ (-9223372036854775808 ≤ m.2.2.1 ∧ m.2.2.1 ≤ 9223372036854775807) ∧ (-9223372036854775808 ≤ m.2.2.2.1 ∧ m.2.2.2.1 ≤ 9223372036854775807) ∧ (-9223372036854775808 ≤ m.2.2.2.2 ∧ m.2.2.2.2 ≤ 9223372036854775807)) :
    Calls Try.prog 7 #[.agg #[.int .i64 p.1, .slice p.2.1.1 p.2.1.2.1.length p.2.1.2.2, .slice p.2.2.1.1 p.2.2.1.2.1 p.2.2.1.2.2, .slice p.2.2.2.1 p.2.2.2.2.1.length p.2.2.2.2.2], .int .i64 a, .int .i64 b, .int .i64 c, .agg #[.int .i64 m.1, .int .i64 m.2.1, .int .i64 m.2.2.1, .int .i64 m.2.2.2.1, .int .i64 m.2.2.2.2]] w fun e w' => e = .returned (.bool true) ∧ Below w.heap.size w w' :=
  graphNear_walk p.1 p.2.1.1 p.2.1.2.1.length p.2.1.2.2 p.2.2.1.1 p.2.2.1.2.1 p.2.2.1.2.2 p.2.2.2.1 p.2.2.2.2.1.length p.2.2.2.2.2 a b c m.1 m.2.1 m.2.2.1 m.2.2.2.1 m.2.2.2.2 p.2.1.2.1 p.2.2.2.2.1 w (by have := hp.2.1.2.2.2.1; have := hp.2.1.2.2.2.2; unfold maxLen at *; omega) (by have := hp.2.2.2.2.2.2.1; have := hp.2.2.2.2.2.2.2; unfold maxLen at *; omega) rfl (fun c hc => ⟨(hp.2.2.2.2.1 c hc).2.1, (hp.2.2.2.2.1 c hc).2.2.1⟩) (by have := hp.2.2.1.1; have := hp.2.2.1.2.1; unfold maxLen at *; omega) rfl (fun c hc => by have := (hp.2.1.2.1 c hc).2.2.2.1; unfold maxLen at this; omega) hp.2.1.1 hp.2.2.2.1 hp.2.2.2.2.2.1 ha hb hc hm.2.1 hm.2.2.1

end Go.Proofs.Ytmdagajbelfnoaa
