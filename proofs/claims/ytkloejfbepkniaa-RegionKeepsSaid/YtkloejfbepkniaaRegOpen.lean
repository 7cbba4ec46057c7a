/-
  The arguments of layer 19's statements, opened.
-/
import Derived.Test.YtkloejfbepkniaaOpenR
import Derived.Test.YtkloejfbepkniaaReg14
namespace Go.Proofs.Ytkloejfbepkniaa
open Go.ChangeShapes Go.WideShapes Go.RowKit Go.Deep
set_option linter.unusedVariables false
set_option linter.unusedSimpArgs false

theorem open_part {H : Type} {enc : TypeId × Value → H} {w : World} {spare : Nat → Bool} {held : Bool} {r : Reach} {b0 base : Nat} {v : Value} {d : DataW H} {p : List MemPlace} (hv : Value.okWide Try.prog w r b0 35 v) (h : DataW.Trod enc Try.prog w base spare held 35 v d p) :
    ∃ a : Int × Int × Int × (Option Addr × Nat × Nat) × Int × Int, v = .agg #[.int .i64 a.1, .int .i64 a.2.1, .int .i64 a.2.2.1, .slice a.2.2.2.1.1 a.2.2.2.1.2.1 a.2.2.2.1.2.2, .int .i64 a.2.2.2.2.1, .int .i64 a.2.2.2.2.2] ∧ (-9223372036854775808 ≤ a.1 ∧ a.1 ≤ 9223372036854775807) ∧ (-9223372036854775808 ≤ a.2.1 ∧ a.2.1 ≤ 9223372036854775807) ∧ (-9223372036854775808 ≤ a.2.2.1 ∧ a.2.2.1 ≤ 9223372036854775807) ∧ (a.2.2.2.1.2.1 ≤ a.2.2.2.1.2.2 ∧ a.2.2.2.1.2.2 ≤ maxLen ∧ (a.2.2.2.1.1 = none → a.2.2.2.1.2.1 = 0 ∧ a.2.2.2.1.2.2 = 0)) ∧ (-9223372036854775808 ≤ a.2.2.2.2.1 ∧ a.2.2.2.2.1 ≤ 9223372036854775807) ∧ (-9223372036854775808 ≤ a.2.2.2.2.2 ∧ a.2.2.2.2.2 ≤ 9223372036854775807) := by
  obtain ⟨cs, rfl, hsz, hf⟩ := open_fields Try.underlying35 (by kernel_rfl) (by kernel_rfl) hv h
  obtain ⟨x0, y0, n0, h0, t0⟩ := hf 0 _ rfl
  obtain ⟨x1, y1, n1, h1, t1⟩ := hf 1 _ rfl
  obtain ⟨x2, y2, n2, h2, t2⟩ := hf 2 _ rfl
  obtain ⟨x3, y3, n3, h3, t3⟩ := hf 3 _ rfl
  obtain ⟨x4, y4, n4, h4, t4⟩ := hf 4 _ rfl
  obtain ⟨x5, y5, n5, h5, t5⟩ := hf 5 _ rfl
  obtain ⟨m0, e0, _, w0⟩ := DataW.trod_int Try.underlying3 t0
  obtain ⟨m1, e1, _, w1⟩ := DataW.trod_int Try.underlying3 t1
  obtain ⟨m2, e2, _, w2⟩ := DataW.trod_int Try.underlying3 t2
  obtain ⟨s3, l3, c3, rfl, hl3, hm3, hn3⟩ := open_hdr Try.underlying33 t3
  obtain ⟨m4, e4, _, w4⟩ := DataW.trod_int Try.underlying3 t4
  obtain ⟨m5, e5, _, w5⟩ := DataW.trod_int Try.underlying3 t5
  simp only [List.cons.injEq, and_true] at e0 e1 e2 e4 e5
  subst e0 e1 e2 e4 e5
  refine ⟨(m0, m1, m2, (s3, l3, c3), m4, m5), ?_, wf_i64 w0, wf_i64 w1, wf_i64 w2, ⟨hl3, hm3, hn3⟩, wf_i64 w4, wf_i64 w5⟩
  congr 1
  apply Array.ext_getElem?
  intro i
  match i with
  | 0 => exact h0
  | 1 => exact h1
  | 2 => exact h2
  | 3 => exact h3
  | 4 => exact h4
  | 5 => exact h5
  | i + 6 => rw [Array.getElem?_eq_none (by rw [hsz]; show 6 ≤ i + 6; omega), Array.getElem?_eq_none (by show 6 ≤ i + 6; omega)]
theorem el_step {H : Type} {enc : TypeId × Value → H} {w : World} {spare : Nat → Bool} {held : Bool} {base n : Nat} {cs : List Value} {z : DataW H × List MemPlace} (h : DataW.trod enc Try.prog w base spare held n 37 cs = some z) :
    ∃ a : Int × Int × Int × Int × Int × Int × (Option Addr × Nat × Nat) × Int × Int × (Option Addr × List Int × Nat), cs = RegP.stc a ∧ (-9223372036854775808 ≤ a.1 ∧ a.1 ≤ 9223372036854775807) ∧ (-9223372036854775808 ≤ a.2.1 ∧ a.2.1 ≤ 9223372036854775807) ∧ (-9223372036854775808 ≤ a.2.2.1 ∧ a.2.2.1 ≤ 9223372036854775807) ∧ (-9223372036854775808 ≤ a.2.2.2.1 ∧ a.2.2.2.1 ≤ 9223372036854775807) ∧ (-9223372036854775808 ≤ a.2.2.2.2.1 ∧ a.2.2.2.2.1 ≤ 9223372036854775807) ∧ (-9223372036854775808 ≤ a.2.2.2.2.2.1 ∧ a.2.2.2.2.2.1 ≤ 9223372036854775807) ∧ (a.2.2.2.2.2.2.1.2.1 ≤ a.2.2.2.2.2.2.1.2.2 ∧ a.2.2.2.2.2.2.1.2.2 ≤ maxLen ∧ (a.2.2.2.2.2.2.1.1 = none → a.2.2.2.2.2.2.1.2.1 = 0 ∧ a.2.2.2.2.2.2.1.2.2 = 0)) ∧ (-9223372036854775808 ≤ a.2.2.2.2.2.2.2.1 ∧ a.2.2.2.2.2.2.2.1 ≤ 9223372036854775807) ∧ (-9223372036854775808 ≤ a.2.2.2.2.2.2.2.2.1 ∧ a.2.2.2.2.2.2.2.2.1 ≤ 9223372036854775807) ∧ (Hp.RdV w a.2.2.2.2.2.2.2.2.2.1 (a.2.2.2.2.2.2.2.2.2.2.1.map (Value.int .u32)) ∧ (∀ z ∈ a.2.2.2.2.2.2.2.2.2.2.1, (Lit.int .u32 z).wf = true) ∧ (a.2.2.2.2.2.2.2.2.2.1 = none → a.2.2.2.2.2.2.2.2.2.2.1.length = 0 ∧ a.2.2.2.2.2.2.2.2.2.2.2 = 0) ∧ a.2.2.2.2.2.2.2.2.2.2.1.length ≤ a.2.2.2.2.2.2.2.2.2.2.2 ∧ a.2.2.2.2.2.2.2.2.2.2.2 ≤ maxLen) := by
  have hl := (trod_len Try.underlying37 h).trans (show _ = 10 by kernel_rfl)
  match cs, hl with
  | [c0, c1, c2, c3, c4, c5, c6, c7, c8, c9], _ =>
    obtain ⟨y0, n0, u0⟩ := trod_field Try.underlying37 h 0 _ rfl
    replace u0 : DataW.trod enc Try.prog w base spare held n0 3 [c0] = some y0 := by
      rw [show ([c0] : List Value) = (([c0, c1, c2, c3, c4, c5, c6, c7, c8, c9] : List Value).drop 0).take (Try.prog.cellsOf 3) by rw [show Try.prog.cellsOf 3 = 1 by kernel_rfl]; rfl]
      exact u0
    have t0 := u0
    obtain ⟨y1, n1, u1⟩ := trod_field Try.underlying37 h 1 _ rfl
    replace u1 : DataW.trod enc Try.prog w base spare held n1 3 [c1] = some y1 := by
      rw [show ([c1] : List Value) = (([c0, c1, c2, c3, c4, c5, c6, c7, c8, c9] : List Value).drop 1).take (Try.prog.cellsOf 3) by rw [show Try.prog.cellsOf 3 = 1 by kernel_rfl]; rfl]
      exact u1
    have t1 := u1
    obtain ⟨y2, n2, u2⟩ := trod_field Try.underlying37 h 2 _ rfl
    replace u2 : DataW.trod enc Try.prog w base spare held n2 3 [c2] = some y2 := by
      rw [show ([c2] : List Value) = (([c0, c1, c2, c3, c4, c5, c6, c7, c8, c9] : List Value).drop 2).take (Try.prog.cellsOf 3) by rw [show Try.prog.cellsOf 3 = 1 by kernel_rfl]; rfl]
      exact u2
    have t2 := u2
    obtain ⟨y3, n3, u3⟩ := trod_field Try.underlying37 h 3 _ rfl
    replace u3 : DataW.trod enc Try.prog w base spare held n3 35 [c3, c4, c5, c6, c7, c8] = some y3 := by
      rw [show ([c3, c4, c5, c6, c7, c8] : List Value) = (([c0, c1, c2, c3, c4, c5, c6, c7, c8, c9] : List Value).drop 3).take (Try.prog.cellsOf 35) by rw [show Try.prog.cellsOf 35 = 6 by kernel_rfl]; rfl]
      exact u3
    obtain ⟨y4, n4, u4⟩ := trod_field Try.underlying35 u3 0 _ rfl
    replace u4 : DataW.trod enc Try.prog w base spare held n4 3 [c3] = some y4 := by
      rw [show ([c3] : List Value) = (([c3, c4, c5, c6, c7, c8] : List Value).drop 0).take (Try.prog.cellsOf 3) by rw [show Try.prog.cellsOf 3 = 1 by kernel_rfl]; rfl]
      exact u4
    have t3 := u4
    obtain ⟨y5, n5, u5⟩ := trod_field Try.underlying35 u3 1 _ rfl
    replace u5 : DataW.trod enc Try.prog w base spare held n5 3 [c4] = some y5 := by
      rw [show ([c4] : List Value) = (([c3, c4, c5, c6, c7, c8] : List Value).drop 1).take (Try.prog.cellsOf 3) by rw [show Try.prog.cellsOf 3 = 1 by kernel_rfl]; rfl]
      exact u5
    have t4 := u5
    obtain ⟨y6, n6, u6⟩ := trod_field Try.underlying35 u3 2 _ rfl
    replace u6 : DataW.trod enc Try.prog w base spare held n6 3 [c5] = some y6 := by
      rw [show ([c5] : List Value) = (([c3, c4, c5, c6, c7, c8] : List Value).drop 2).take (Try.prog.cellsOf 3) by rw [show Try.prog.cellsOf 3 = 1 by kernel_rfl]; rfl]
      exact u6
    have t5 := u6
    obtain ⟨y7, n7, u7⟩ := trod_field Try.underlying35 u3 3 _ rfl
    replace u7 : DataW.trod enc Try.prog w base spare held n7 33 [c6] = some y7 := by
      rw [show ([c6] : List Value) = (([c3, c4, c5, c6, c7, c8] : List Value).drop 3).take (Try.prog.cellsOf 33) by rw [show Try.prog.cellsOf 33 = 1 by kernel_rfl]; rfl]
      exact u7
    have t6 := u7
    obtain ⟨y8, n8, u8⟩ := trod_field Try.underlying35 u3 4 _ rfl
    replace u8 : DataW.trod enc Try.prog w base spare held n8 3 [c7] = some y8 := by
      rw [show ([c7] : List Value) = (([c3, c4, c5, c6, c7, c8] : List Value).drop 4).take (Try.prog.cellsOf 3) by rw [show Try.prog.cellsOf 3 = 1 by kernel_rfl]; rfl]
      exact u8
    have t7 := u8
    obtain ⟨y9, n9, u9⟩ := trod_field Try.underlying35 u3 5 _ rfl
    replace u9 : DataW.trod enc Try.prog w base spare held n9 3 [c8] = some y9 := by
      rw [show ([c8] : List Value) = (([c3, c4, c5, c6, c7, c8] : List Value).drop 5).take (Try.prog.cellsOf 3) by rw [show Try.prog.cellsOf 3 = 1 by kernel_rfl]; rfl]
      exact u9
    have t8 := u9
    obtain ⟨y10, n10, u10⟩ := trod_field Try.underlying37 h 4 _ rfl
    replace u10 : DataW.trod enc Try.prog w base spare held n10 33 [c9] = some y10 := by
      rw [show ([c9] : List Value) = (([c0, c1, c2, c3, c4, c5, c6, c7, c8, c9] : List Value).drop 9).take (Try.prog.cellsOf 33) by rw [show Try.prog.cellsOf 33 = 1 by kernel_rfl]; rfl]
      exact u10
    have t9 := u10
    obtain ⟨m0, e0, _, w0⟩ := DataW.trod_int Try.underlying3 t0
    obtain ⟨m1, e1, _, w1⟩ := DataW.trod_int Try.underlying3 t1
    obtain ⟨m2, e2, _, w2⟩ := DataW.trod_int Try.underlying3 t2
    obtain ⟨m3, e3, _, w3⟩ := DataW.trod_int Try.underlying3 t3
    obtain ⟨m4, e4, _, w4⟩ := DataW.trod_int Try.underlying3 t4
    obtain ⟨m5, e5, _, w5⟩ := DataW.trod_int Try.underlying3 t5
    obtain ⟨s6, l6, c6, rfl, hl6, hm6, hn6⟩ := open_hdr Try.underlying33 t6
    obtain ⟨m7, e7, _, w7⟩ := DataW.trod_int Try.underlying3 t7
    obtain ⟨m8, e8, _, w8⟩ := DataW.trod_int Try.underlying3 t8
    obtain ⟨s9, zs9, c9, rfl, hr9⟩ := open_nums Try.underlying33 Try.underlying47 (by kernel_rfl) t9
    simp only [List.cons.injEq, and_true] at e0 e1 e2 e3 e4 e5 e7 e8
    subst e0 e1 e2 e3 e4 e5 e7 e8
    exact ⟨(m0, m1, m2, m3, m4, m5, (s6, l6, c6), m7, m8, (s9, zs9, c9)), rfl, wf_i64 w0, wf_i64 w1, wf_i64 w2, wf_i64 w3, wf_i64 w4, wf_i64 w5, ⟨hl6, hm6, hn6⟩, wf_i64 w7, wf_i64 w8, hr9⟩
theorem open_script {H : Type} {enc : TypeId × Value → H} {w : World} {spare : Nat → Bool} {held : Bool} {base n : Nat} {x : Value} {y : DataW H × List MemPlace} (h : DataW.trod enc Try.prog w base spare held n 22 [x] = some y) :
    ∃ (s : Option Addr) (l : List (Int × Int × Int × Int × Int × Int × (Option Addr × Nat × Nat) × Int × Int × (Option Addr × List Int × Nat))) (cap : Nat), x = .slice s l.length cap ∧ Hp.RdV w s (l.flatMap RegP.stc) ∧ (∀ el ∈ l, (-9223372036854775808 ≤ el.1 ∧ el.1 ≤ 9223372036854775807) ∧ (-9223372036854775808 ≤ el.2.1 ∧ el.2.1 ≤ 9223372036854775807) ∧ (-9223372036854775808 ≤ el.2.2.1 ∧ el.2.2.1 ≤ 9223372036854775807) ∧ (-9223372036854775808 ≤ el.2.2.2.1 ∧ el.2.2.2.1 ≤ 9223372036854775807) ∧ (-9223372036854775808 ≤ el.2.2.2.2.1 ∧ el.2.2.2.2.1 ≤ 9223372036854775807) ∧ (-9223372036854775808 ≤ el.2.2.2.2.2.1 ∧ el.2.2.2.2.2.1 ≤ 9223372036854775807) ∧ (el.2.2.2.2.2.2.1.2.1 ≤ el.2.2.2.2.2.2.1.2.2 ∧ el.2.2.2.2.2.2.1.2.2 ≤ maxLen ∧ (el.2.2.2.2.2.2.1.1 = none → el.2.2.2.2.2.2.1.2.1 = 0 ∧ el.2.2.2.2.2.2.1.2.2 = 0)) ∧ (-9223372036854775808 ≤ el.2.2.2.2.2.2.2.1 ∧ el.2.2.2.2.2.2.2.1 ≤ 9223372036854775807) ∧ (-9223372036854775808 ≤ el.2.2.2.2.2.2.2.2.1 ∧ el.2.2.2.2.2.2.2.2.1 ≤ 9223372036854775807) ∧ (Hp.RdV w el.2.2.2.2.2.2.2.2.2.1 (el.2.2.2.2.2.2.2.2.2.2.1.map (Value.int .u32)) ∧ (∀ z ∈ el.2.2.2.2.2.2.2.2.2.2.1, (Lit.int .u32 z).wf = true) ∧ (el.2.2.2.2.2.2.2.2.2.1 = none → el.2.2.2.2.2.2.2.2.2.2.1.length = 0 ∧ el.2.2.2.2.2.2.2.2.2.2.2 = 0) ∧ el.2.2.2.2.2.2.2.2.2.2.1.length ≤ el.2.2.2.2.2.2.2.2.2.2.2 ∧ el.2.2.2.2.2.2.2.2.2.2.2 ≤ maxLen)) ∧ (s = none → l.length = 0 ∧ cap = 0) ∧ l.length ≤ cap ∧ cap ≤ maxLen := by
  obtain ⟨s, len, cap, rfl, hl, hm, hn, hc⟩ := open_rowsG Try.underlying22 h
  obtain ⟨l, hll, hr, hg⟩ := rows_choose (w := w) (α := Int × Int × Int × Int × Int × Int × (Option Addr × Nat × Nat) × Int × Int × (Option Addr × List Int × Nat)) (enc := RegP.stc) (size := 10) (G := fun el => (-9223372036854775808 ≤ el.1 ∧ el.1 ≤ 9223372036854775807) ∧ (-9223372036854775808 ≤ el.2.1 ∧ el.2.1 ≤ 9223372036854775807) ∧ (-9223372036854775808 ≤ el.2.2.1 ∧ el.2.2.1 ≤ 9223372036854775807) ∧ (-9223372036854775808 ≤ el.2.2.2.1 ∧ el.2.2.2.1 ≤ 9223372036854775807) ∧ (-9223372036854775808 ≤ el.2.2.2.2.1 ∧ el.2.2.2.2.1 ≤ 9223372036854775807) ∧ (-9223372036854775808 ≤ el.2.2.2.2.2.1 ∧ el.2.2.2.2.2.1 ≤ 9223372036854775807) ∧ (el.2.2.2.2.2.2.1.2.1 ≤ el.2.2.2.2.2.2.1.2.2 ∧ el.2.2.2.2.2.2.1.2.2 ≤ maxLen ∧ (el.2.2.2.2.2.2.1.1 = none → el.2.2.2.2.2.2.1.2.1 = 0 ∧ el.2.2.2.2.2.2.1.2.2 = 0)) ∧ (-9223372036854775808 ≤ el.2.2.2.2.2.2.2.1 ∧ el.2.2.2.2.2.2.2.1 ≤ 9223372036854775807) ∧ (-9223372036854775808 ≤ el.2.2.2.2.2.2.2.2.1 ∧ el.2.2.2.2.2.2.2.2.1 ≤ 9223372036854775807) ∧ (Hp.RdV w el.2.2.2.2.2.2.2.2.2.1 (el.2.2.2.2.2.2.2.2.2.2.1.map (Value.int .u32)) ∧ (∀ z ∈ el.2.2.2.2.2.2.2.2.2.2.1, (Lit.int .u32 z).wf = true) ∧ (el.2.2.2.2.2.2.2.2.2.1 = none → el.2.2.2.2.2.2.2.2.2.2.1.length = 0 ∧ el.2.2.2.2.2.2.2.2.2.2.2 = 0) ∧ el.2.2.2.2.2.2.2.2.2.2.1.length ≤ el.2.2.2.2.2.2.2.2.2.2.2 ∧ el.2.2.2.2.2.2.2.2.2.2.2 ≤ maxLen)) (s := s) (len := len) (fun _ => rfl) (fun h0 => by
    obtain ⟨p, hp, hc⟩ := hc h0
    refine ⟨p, hp, fun i hi => ?_⟩
    obtain ⟨cs, z, m, hcs, ht⟩ := hc i hi
    obtain ⟨a, rfl, hfa⟩ := el_step ht
    refine ⟨a, hfa, fun j v hv => ?_⟩
    have := hcs j v hv
    rw [show Try.prog.cellsOf 37 = 10 by kernel_rfl] at this
    exact this)
  subst hll
  exact ⟨s, l, cap, rfl, hr, hg, hn, hl, hm⟩

section
variable {H : Type} {enc : TypeId × Value → H} {w : World} {spare : Nat → Bool} {held : Bool}
theorem open_scriptv {r : Reach} {b0 base : Nat} {v : Value} {d : DataW H} {p : List MemPlace} (hv : Value.okWide Try.prog w r b0 22 v) (h : DataW.Trod enc Try.prog w base spare held 22 v d p) :
    ∃ S : Option Addr × List (Int × Int × Int × Int × Int × Int × (Option Addr × Nat × Nat) × Int × Int × (Option Addr × List Int × Nat)) × Nat, v = .slice S.1 S.2.1.length S.2.2 ∧ (Hp.RdV w S.1 (S.2.1.flatMap RegP.stc) ∧ (∀ el ∈ S.2.1, (-9223372036854775808 ≤ el.1 ∧ el.1 ≤ 9223372036854775807) ∧ (-9223372036854775808 ≤ el.2.1 ∧ el.2.1 ≤ 9223372036854775807) ∧ (-9223372036854775808 ≤ el.2.2.1 ∧ el.2.2.1 ≤ 9223372036854775807) ∧ (-9223372036854775808 ≤ el.2.2.2.1 ∧ el.2.2.2.1 ≤ 9223372036854775807) ∧ (-9223372036854775808 ≤ el.2.2.2.2.1 ∧ el.2.2.2.2.1 ≤ 9223372036854775807) ∧ (-9223372036854775808 ≤ el.2.2.2.2.2.1 ∧ el.2.2.2.2.2.1 ≤ 9223372036854775807) ∧ (el.2.2.2.2.2.2.1.2.1 ≤ el.2.2.2.2.2.2.1.2.2 ∧ el.2.2.2.2.2.2.1.2.2 ≤ maxLen ∧ (el.2.2.2.2.2.2.1.1 = none → el.2.2.2.2.2.2.1.2.1 = 0 ∧ el.2.2.2.2.2.2.1.2.2 = 0)) ∧ (-9223372036854775808 ≤ el.2.2.2.2.2.2.2.1 ∧ el.2.2.2.2.2.2.2.1 ≤ 9223372036854775807) ∧ (-9223372036854775808 ≤ el.2.2.2.2.2.2.2.2.1 ∧ el.2.2.2.2.2.2.2.2.1 ≤ 9223372036854775807) ∧ (Hp.RdV w el.2.2.2.2.2.2.2.2.2.1 (el.2.2.2.2.2.2.2.2.2.2.1.map (Value.int .u32)) ∧ (∀ z ∈ el.2.2.2.2.2.2.2.2.2.2.1, (Lit.int .u32 z).wf = true) ∧ (el.2.2.2.2.2.2.2.2.2.1 = none → el.2.2.2.2.2.2.2.2.2.2.1.length = 0 ∧ el.2.2.2.2.2.2.2.2.2.2.2 = 0) ∧ el.2.2.2.2.2.2.2.2.2.2.1.length ≤ el.2.2.2.2.2.2.2.2.2.2.2 ∧ el.2.2.2.2.2.2.2.2.2.2.2 ≤ maxLen)) ∧ (S.1 = none → S.2.1.length = 0 ∧ S.2.2 = 0) ∧ S.2.1.length ≤ S.2.2 ∧ S.2.2 ≤ maxLen) := by
  obtain ⟨n, y, h⟩ := trod_sv Try.underlying22 hv h
  obtain ⟨s, l, cap, rfl, hh⟩ := open_script h
  exact ⟨(s, l, cap), rfl, hh⟩
theorem open_words {r : Reach} {b0 base : Nat} {v : Value} {d : DataW H} {p : List MemPlace} (hv : Value.okWide Try.prog w r b0 33 v) (h : DataW.Trod enc Try.prog w base spare held 33 v d p) :
    ∃ a : Option Addr × List Int × Nat, v = .slice a.1 a.2.1.length a.2.2 ∧ (Hp.RdV w a.1 (a.2.1.map (Value.int .u32)) ∧ (∀ z ∈ a.2.1, (Lit.int .u32 z).wf = true) ∧ (a.1 = none → a.2.1.length = 0 ∧ a.2.2 = 0) ∧ a.2.1.length ≤ a.2.2 ∧ a.2.2 ≤ maxLen) := by
  obtain ⟨s, zs, cap, rfl, hh⟩ := open_numsv Try.underlying33 Try.underlying47 (by kernel_rfl) hv h
  exact ⟨(s, zs, cap), rfl, hh⟩
theorem open_w32 {r : Reach} {b0 base : Nat} {v : Value} {d : DataW H} {p : List MemPlace} (hv : Value.okWide Try.prog w r b0 47 v) (h : DataW.Trod enc Try.prog w base spare held 47 v d p) : ∃ a : Int, v = .int .u32 a ∧ 0 ≤ a ∧ a ≤ 4294967295 := by
  obtain ⟨a, e, rfl, rfl, hw⟩ := open_int Try.underlying47 hv h
  exact ⟨a, e, wf_u32 hw⟩
end
theorem RegP.stB_of {w : World} {s : RegP.Stp} (h : (-9223372036854775808 ≤ s.1 ∧ s.1 ≤ 9223372036854775807) ∧ (-9223372036854775808 ≤ s.2.1 ∧ s.2.1 ≤ 9223372036854775807) ∧ (-9223372036854775808 ≤ s.2.2.1 ∧ s.2.2.1 ≤ 9223372036854775807) ∧ (-9223372036854775808 ≤ s.2.2.2.1 ∧ s.2.2.2.1 ≤ 9223372036854775807) ∧ (-9223372036854775808 ≤ s.2.2.2.2.1 ∧ s.2.2.2.2.1 ≤ 9223372036854775807) ∧ (-9223372036854775808 ≤ s.2.2.2.2.2.1 ∧ s.2.2.2.2.2.1 ≤ 9223372036854775807) ∧ (s.2.2.2.2.2.2.1.2.1 ≤ s.2.2.2.2.2.2.1.2.2 ∧ s.2.2.2.2.2.2.1.2.2 ≤ maxLen ∧ (s.2.2.2.2.2.2.1.1 = none → s.2.2.2.2.2.2.1.2.1 = 0 ∧ s.2.2.2.2.2.2.1.2.2 = 0)) ∧ (-9223372036854775808 ≤ s.2.2.2.2.2.2.2.1 ∧ s.2.2.2.2.2.2.2.1 ≤ 9223372036854775807) ∧ (-9223372036854775808 ≤ s.2.2.2.2.2.2.2.2.1 ∧ s.2.2.2.2.2.2.2.2.1 ≤ 9223372036854775807) ∧ (Hp.RdV w s.2.2.2.2.2.2.2.2.2.1 (s.2.2.2.2.2.2.2.2.2.2.1.map (Value.int .u32)) ∧ (∀ z ∈ s.2.2.2.2.2.2.2.2.2.2.1, (Lit.int .u32 z).wf = true) ∧ (s.2.2.2.2.2.2.2.2.2.1 = none → s.2.2.2.2.2.2.2.2.2.2.1.length = 0 ∧ s.2.2.2.2.2.2.2.2.2.2.2 = 0) ∧ s.2.2.2.2.2.2.2.2.2.2.1.length ≤ s.2.2.2.2.2.2.2.2.2.2.2 ∧ s.2.2.2.2.2.2.2.2.2.2.2 ≤ maxLen)) (hm : maxLen = 9223372036854775807 ∨ True) : RegP.StB s := by
  refine ⟨h.1, h.2.1, h.2.2.1, h.2.2.2.1, h.2.2.2.2.1, ?_⟩
  have h1 := h.2.2.2.2.2.2.2.2.2.2.2.2.1
  have h2 := h.2.2.2.2.2.2.2.2.2.2.2.2.2
  unfold maxLen at h2
  omega

theorem regionDoes_walk' (x : Int) (S : Option Addr × List (Int × Int × Int × Int × Int × Int × (Option Addr × Nat × Nat) × Int × Int × (Option Addr × List Int × Nat)) × Nat) (w : World) (hx : (-9223372036854775808 ≤ x ∧ x ≤ 9223372036854775807)) (hS : (Hp.RdV w S.1 (S.2.1.flatMap RegP.stc) ∧ (∀ el ∈ S.2.1, (-9223372036854775808 ≤ el.1 ∧ el.1 ≤ 9223372036854775807) ∧ (-9223372036854775808 ≤ el.2.1 ∧ el.2.1 ≤ 9223372036854775807) ∧ (-9223372036854775808 ≤ el.2.2.1 ∧ el.2.2.1 ≤ 9223372036854775807) ∧ (-9223372036854775808 ≤ el.2.2.2.1 ∧ el.2.2.2.1 ≤ 9223372036854775807) ∧ (-9223372036854775808 ≤ el.2.2.2.2.1 ∧ el.2.2.2.2.1 ≤ 9223372036854775807) ∧ (-9223372036854775808 ≤ el.2.2.2.2.2.1 ∧ el.2.2.2.2.2.1 ≤ 9223372036854775807) ∧ (el.2.2.2.2.2.2.1.2.1 ≤ el.2.2.2.2.2.2.1.2.2 ∧ el.2.2.2.2.2.2.1.2.2 ≤ maxLen ∧ (el.2.2.2.2.2.2.1.1 = none → el.2.2.2.2.2.2.1.2.1 = 0 ∧ el.2.2.2.2.2.2.1.2.2 = 0)) ∧ (-9223372036854775808 ≤ el.2.2.2.2.2.2.2.1 ∧ el.2.2.2.2.2.2.2.1 ≤ 9223372036854775807) ∧ (-9223372036854775808 ≤ el.2.2.2.2.2.2.2.2.1 ∧ el.2.2.2.2.2.2.2.2.1 ≤ 9223372036854775807) ∧ (Hp.RdV w el.2.2.2.2.2.2.2.2.2.1 (el.2.2.2.2.2.2.2.2.2.2.1.map (Value.int .u32)) ∧ (∀ z ∈ el.2.2.2.2.2.2.2.2.2.2.1, (Lit.int .u32 z).wf = true) ∧ (el.2.2.2.2.2.2.2.2.2.1 = none → el.2.2.2.2.2.2.2.2.2.2.1.length = 0 ∧ el.2.2.2.2.2.2.2.2.2.2.2 = 0) ∧ el.2.2.2.2.2.2.2.2.2.2.1.length ≤ el.2.2.2.2.2.2.2.2.2.2.2 ∧ el.2.2.2.2.2.2.2.2.2.2.2 ≤ maxLen)) ∧ (S.1 = none → S.2.1.length = 0 ∧ S.2.2 = 0) ∧ S.2.1.length ≤ S.2.2 ∧ S.2.2 ≤ maxLen)) :
    Calls Try.prog 3 #[.int .i64 x, .slice S.1 S.2.1.length S.2.2] w fun e w' => e = .returned (.bool true) ∧ Below w.heap.size w w' :=
  regionDoes_walk x S.1 S.2.1 S.2.1.length S.2.2 w hx rfl (by have h1 := hS.2.2.2.1; have h2 := hS.2.2.2.2; unfold maxLen at h2; omega) (fun s hs => RegP.stB_of (hS.2.1 s hs) (.inr trivial)) hS.1 (fun s hs => by have q := hS.2.1 s hs; exact q.2.2.2.2.2.2.2.2.2.1)

theorem regionApart_walk' (x : Int) (p : Int × Int × Int × (Option Addr × Nat × Nat) × Int × Int) (a : Option Addr × List Int × Nat) (S : Option Addr × List (Int × Int × Int × Int × Int × Int × (Option Addr × Nat × Nat) × Int × Int × (Option Addr × List Int × Nat)) × Nat) (w : World) (hx : (-9223372036854775808 ≤ x ∧ x ≤ 9223372036854775807)) (hp : (-9223372036854775808 ≤ p.1 ∧ p.1 ≤ 9223372036854775807) ∧ (-9223372036854775808 ≤ p.2.1 ∧ p.2.1 ≤ 9223372036854775807) ∧ (-9223372036854775808 ≤ p.2.2.1 ∧ p.2.2.1 ≤ 9223372036854775807) ∧ (p.2.2.2.1.2.1 ≤ p.2.2.2.1.2.2 ∧ p.2.2.2.1.2.2 ≤ maxLen ∧ (p.2.2.2.1.1 = none → p.2.2.2.1.2.1 = 0 ∧ p.2.2.2.1.2.2 = 0)) ∧ (-9223372036854775808 ≤ p.2.2.2.2.1 ∧ p.2.2.2.2.1 ≤ 9223372036854775807) ∧ (-9223372036854775808 ≤ p.2.2.2.2.2 ∧ p.2.2.2.2.2 ≤ 9223372036854775807)) (ha : (Hp.RdV w a.1 (a.2.1.map (Value.int .u32)) ∧ (∀ z ∈ a.2.1, (Lit.int .u32 z).wf = true) ∧ (a.1 = none → a.2.1.length = 0 ∧ a.2.2 = 0) ∧ a.2.1.length ≤ a.2.2 ∧ a.2.2 ≤ maxLen)) (hS : (Hp.RdV w S.1 (S.2.1.flatMap RegP.stc) ∧ (∀ el ∈ S.2.1, (-9223372036854775808 ≤ el.1 ∧ el.1 ≤ 9223372036854775807) ∧ (-9223372036854775808 ≤ el.2.1 ∧ el.2.1 ≤ 9223372036854775807) ∧ (-9223372036854775808 ≤ el.2.2.1 ∧ el.2.2.1 ≤ 9223372036854775807) ∧ (-9223372036854775808 ≤ el.2.2.2.1 ∧ el.2.2.2.1 ≤ 9223372036854775807) ∧ (-9223372036854775808 ≤ el.2.2.2.2.1 ∧ el.2.2.2.2.1 ≤ 9223372036854775807) ∧ (-9223372036854775808 ≤ el.2.2.2.2.2.1 ∧ el.2.2.2.2.2.1 ≤ 9223372036854775807) ∧ (el.2.2.2.2.2.2.1.2.1 ≤ el.2.2.2.2.2.2.1.2.2 ∧ el.2.2.2.2.2.2.1.2.2 ≤ maxLen ∧ (el.2.2.2.2.2.2.1.1 = none → el.2.2.2.2.2.2.1.2.1 = 0 ∧ el.2.2.2.2.2.2.1.2.2 = 0)) ∧ (-9223372036854775808 ≤ el.2.2.2.2.2.2.2.1 ∧ el.2.2.2.2.2.2.2.1 ≤ 9223372036854775807) ∧ (-9223372036854775808 ≤ el.2.2.2.2.2.2.2.2.1 ∧ el.2.2.2.2.2.2.2.2.1 ≤ 9223372036854775807) ∧ (Hp.RdV w el.2.2.2.2.2.2.2.2.2.1 (el.2.2.2.2.2.2.2.2.2.2.1.map (Value.int .u32)) ∧ (∀ z ∈ el.2.2.2.2.2.2.2.2.2.2.1, (Lit.int .u32 z).wf = true) ∧ (el.2.2.2.2.2.2.2.2.2.1 = none → el.2.2.2.2.2.2.2.2.2.2.1.length = 0 ∧ el.2.2.2.2.2.2.2.2.2.2.2 = 0) ∧ el.2.2.2.2.2.2.2.2.2.2.1.length ≤ el.2.2.2.2.2.2.2.2.2.2.2 ∧ el.2.2.2.2.2.2.2.2.2.2.2 ≤ maxLen)) ∧ (S.1 = none → S.2.1.length = 0 ∧ S.2.2 = 0) ∧ S.2.1.length ≤ S.2.2 ∧ S.2.2 ≤ maxLen)) :
    Calls Try.prog 6 #[.int .i64 x, .agg #[.int .i64 p.1, .int .i64 p.2.1, .int .i64 p.2.2.1, .slice p.2.2.2.1.1 p.2.2.2.1.2.1 p.2.2.2.1.2.2, .int .i64 p.2.2.2.2.1, .int .i64 p.2.2.2.2.2], .slice a.1 a.2.1.length a.2.2, .slice S.1 S.2.1.length S.2.2] w fun e w' => e = .returned (.bool true) ∧ Below w.heap.size w w' :=
  regionApart_walk x p.1 p.2.1 p.2.2.1 p.2.2.2.1.1 p.2.2.2.1.2.1 p.2.2.2.1.2.2 p.2.2.2.2.1 p.2.2.2.2.2 a.1 a.2.1 a.2.1.length a.2.2 S.1 S.2.1 S.2.1.length S.2.2 w hx hp.1 hp.2.1 rfl (by have h1 := ha.2.2.2.1; have h2 := ha.2.2.2.2; unfold maxLen at h2; omega) rfl (by have h1 := hS.2.2.2.1; have h2 := hS.2.2.2.2; unfold maxLen at h2; omega) (fun s hs => RegP.stB_of (hS.2.1 s hs) (.inr trivial)) ha.1 hS.1 (fun s hs => by have q := hS.2.1 s hs; exact q.2.2.2.2.2.2.2.2.2.1)

theorem regionKeeps_walk' (x : Int) (p : Int × Int × Int × (Option Addr × Nat × Nat) × Int × Int) (at' : Int) (a l : Option Addr × List Int × Nat) (w : World) (hx : (-9223372036854775808 ≤ x ∧ x ≤ 9223372036854775807)) (hp : (-9223372036854775808 ≤ p.1 ∧ p.1 ≤ 9223372036854775807) ∧ (-9223372036854775808 ≤ p.2.1 ∧ p.2.1 ≤ 9223372036854775807) ∧ (-9223372036854775808 ≤ p.2.2.1 ∧ p.2.2.1 ≤ 9223372036854775807) ∧ (p.2.2.2.1.2.1 ≤ p.2.2.2.1.2.2 ∧ p.2.2.2.1.2.2 ≤ maxLen ∧ (p.2.2.2.1.1 = none → p.2.2.2.1.2.1 = 0 ∧ p.2.2.2.1.2.2 = 0)) ∧ (-9223372036854775808 ≤ p.2.2.2.2.1 ∧ p.2.2.2.2.1 ≤ 9223372036854775807) ∧ (-9223372036854775808 ≤ p.2.2.2.2.2 ∧ p.2.2.2.2.2 ≤ 9223372036854775807)) (hat : (-9223372036854775808 ≤ at' ∧ at' ≤ 9223372036854775807)) (ha : (Hp.RdV w a.1 (a.2.1.map (Value.int .u32)) ∧ (∀ z ∈ a.2.1, (Lit.int .u32 z).wf = true) ∧ (a.1 = none → a.2.1.length = 0 ∧ a.2.2 = 0) ∧ a.2.1.length ≤ a.2.2 ∧ a.2.2 ≤ maxLen)) (hl : (Hp.RdV w l.1 (l.2.1.map (Value.int .u32)) ∧ (∀ z ∈ l.2.1, (Lit.int .u32 z).wf = true) ∧ (l.1 = none → l.2.1.length = 0 ∧ l.2.2 = 0) ∧ l.2.1.length ≤ l.2.2 ∧ l.2.2 ≤ maxLen)) :
    Calls Try.prog 4 #[.int .i64 x, .agg #[.int .i64 p.1, .int .i64 p.2.1, .int .i64 p.2.2.1, .slice p.2.2.2.1.1 p.2.2.2.1.2.1 p.2.2.2.1.2.2, .int .i64 p.2.2.2.2.1, .int .i64 p.2.2.2.2.2], .int .i64 at', .slice a.1 a.2.1.length a.2.2, .slice l.1 l.2.1.length l.2.2] w fun e w' => e = .returned (.bool true) ∧ Below w.heap.size w w' :=
  regionKeeps_walk x p.1 p.2.1 p.2.2.1 p.2.2.2.1.1 p.2.2.2.1.2.1 p.2.2.2.1.2.2 p.2.2.2.2.1 p.2.2.2.2.2 at' a.1 a.2.1 a.2.1.length a.2.2 l.1 l.2.1 l.2.1.length l.2.2 w hx hp.1 hp.2.1 hat rfl (by have h1 := ha.2.2.2.1; have h2 := ha.2.2.2.2; unfold maxLen at h2; omega) rfl (by have h1 := hl.2.2.2.1; have h2 := hl.2.2.2.2; unfold maxLen at h2; omega) ha.1 hl.1

theorem regionWords_walk' (x : Int) (p q : Int × Int × Int × (Option Addr × Nat × Nat) × Int × Int) (at' to' v : Int) (a : Option Addr × List Int × Nat) (w : World) (hx : (-9223372036854775808 ≤ x ∧ x ≤ 9223372036854775807)) (hp : (-9223372036854775808 ≤ p.1 ∧ p.1 ≤ 9223372036854775807) ∧ (-9223372036854775808 ≤ p.2.1 ∧ p.2.1 ≤ 9223372036854775807) ∧ (-9223372036854775808 ≤ p.2.2.1 ∧ p.2.2.1 ≤ 9223372036854775807) ∧ (p.2.2.2.1.2.1 ≤ p.2.2.2.1.2.2 ∧ p.2.2.2.1.2.2 ≤ maxLen ∧ (p.2.2.2.1.1 = none → p.2.2.2.1.2.1 = 0 ∧ p.2.2.2.1.2.2 = 0)) ∧ (-9223372036854775808 ≤ p.2.2.2.2.1 ∧ p.2.2.2.2.1 ≤ 9223372036854775807) ∧ (-9223372036854775808 ≤ p.2.2.2.2.2 ∧ p.2.2.2.2.2 ≤ 9223372036854775807)) (hq : (-9223372036854775808 ≤ q.1 ∧ q.1 ≤ 9223372036854775807) ∧ (-9223372036854775808 ≤ q.2.1 ∧ q.2.1 ≤ 9223372036854775807) ∧ (-9223372036854775808 ≤ q.2.2.1 ∧ q.2.2.1 ≤ 9223372036854775807) ∧ (q.2.2.2.1.2.1 ≤ q.2.2.2.1.2.2 ∧ q.2.2.2.1.2.2 ≤ maxLen ∧ (q.2.2.2.1.1 = none → q.2.2.2.1.2.1 = 0 ∧ q.2.2.2.1.2.2 = 0)) ∧ (-9223372036854775808 ≤ q.2.2.2.2.1 ∧ q.2.2.2.2.1 ≤ 9223372036854775807) ∧ (-9223372036854775808 ≤ q.2.2.2.2.2 ∧ q.2.2.2.2.2 ≤ 9223372036854775807)) (hat : (-9223372036854775808 ≤ at' ∧ at' ≤ 9223372036854775807)) (hto : (-9223372036854775808 ≤ to' ∧ to' ≤ 9223372036854775807)) (hv : 0 ≤ v ∧ v ≤ 4294967295) (ha : (Hp.RdV w a.1 (a.2.1.map (Value.int .u32)) ∧ (∀ z ∈ a.2.1, (Lit.int .u32 z).wf = true) ∧ (a.1 = none → a.2.1.length = 0 ∧ a.2.2 = 0) ∧ a.2.1.length ≤ a.2.2 ∧ a.2.2 ≤ maxLen)) :
    Calls Try.prog 5 #[.int .i64 x, .agg #[.int .i64 p.1, .int .i64 p.2.1, .int .i64 p.2.2.1, .slice p.2.2.2.1.1 p.2.2.2.1.2.1 p.2.2.2.1.2.2, .int .i64 p.2.2.2.2.1, .int .i64 p.2.2.2.2.2], .agg #[.int .i64 q.1, .int .i64 q.2.1, .int .i64 q.2.2.1, .slice q.2.2.2.1.1 q.2.2.2.1.2.1 q.2.2.2.1.2.2, .int .i64 q.2.2.2.2.1, .int .i64 q.2.2.2.2.2], .int .i64 at', .int .i64 to', .int .u32 v, .slice a.1 a.2.1.length a.2.2] w fun e w' => e = .returned (.bool true) ∧ Below w.heap.size w w' :=
  regionWords_walk x p.1 p.2.1 p.2.2.1 p.2.2.2.1.1 p.2.2.2.1.2.1 p.2.2.2.1.2.2 p.2.2.2.2.1 p.2.2.2.2.2 q.1 q.2.1 q.2.2.1 q.2.2.2.1.1 q.2.2.2.1.2.1 q.2.2.2.1.2.2 q.2.2.2.2.1 q.2.2.2.2.2 at' to' v a.1 a.2.1 a.2.1.length a.2.2 w hx hp.1 hp.2.1 hq.1 hq.2.1 hat hto rfl (by have h1 := ha.2.2.2.1; have h2 := ha.2.2.2.2; unfold maxLen at h2; omega) ha.1

end Go.Proofs.Ytkloejfbepkniaa
