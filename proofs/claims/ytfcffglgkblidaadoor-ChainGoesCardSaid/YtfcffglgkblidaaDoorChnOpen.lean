
/-
  The arguments of layer 9's laws, opened; the table of constants, as the card lists it.
-/
import Derived.Test.YtfcffglgkblidaaDoorArr
import Derived.Test.YtfcffglgkblidaaDoorBatAr
import Derived.Test.YtfcffglgkblidaaDoorEv7
import Derived.Test.YtfcffglgkblidaaDoorDigAr
import Derived.Test.YtfcffglgkblidaaDoorChn2
import Derived.LaidMore
import Derived.Stop.Joined
namespace Go.Proofs.YtfcffglgkblidaaDoor
open Go.ChangeShapes Go.WideShapes Go.ChangeAt Go.RowKit Go.Deep
set_option linter.unusedVariables false
set_option maxRecDepth 100000

theorem gConsts : Tryd.prog.globalNamed "blackbox/digest.constants" = some 0 := by kernel_rfl
theorem tConsts : (Tryd.prog.globals[0]?).map (·.type) = some 104 := by kernel_rfl
def laidL : List (String × DataW Unit) := [("blackbox/digest.constants", Rows.laid_blackbox_digest_constants)]
theorem laid_eq : (Rows.laid_blackbox_digest_constants : DataW Unit) = .agg (DigP.consts.map fun x => .lit (.int .u32 (x.toNat : Int))) := rfl
set_option maxRecDepth 100000 in
theorem of_laid {W : World} (h : laidMetH Tryd.prog laidL W) : Hp.RdV W (some ⟨0, 0, none⟩) (DigP.wds DigP.consts) := by
  rw [MakeChecks.laidMetH_plain _ _ _ (by kernel_rfl)] at h
  obtain ⟨ps, ⟨g0, t0, cs0, f0, p0, q0, hg0, ht0, hv0, hd0, _⟩, _, _⟩ := h
  obtain rfl := Option.some.inj (gConsts.symm.trans hg0)
  obtain rfl := Option.some.inj (tConsts.symm.trans ht0)
  obtain ⟨zs, e1, e2, e3, e4⟩ := trod_nums Tryd.underlying104 Tryd.underlying61 (by kernel_rfl) (by kernel_rfl) hd0
  intro _
  refine ⟨_, rfl, fun i v hv => ?_⟩
  rw [Hp.add_head]
  have hz : zs = DigP.consts.map fun x => (x.toNat : Int) := by
    have e5 : (Rows.laid_blackbox_digest_constants : DataW Unit) = _ := e4
    rw [laid_eq] at e5
    injection e5 with e6
    have key : ∀ (a : List DigP.Wd) (b : List Int), a.map (fun x => (DataW.lit (.int .u32 (x.toNat : Int)) : DataW Unit)) = b.map (fun z => .lit (.int .u32 z)) → b = a.map fun x => (x.toNat : Int) := by
      intro a
      induction a with
      | nil => intro b hb; cases b with
        | nil => rfl
        | cons => cases hb
      | cons x r ih => intro b hb; cases b with
        | nil => cases hb
        | cons z s =>
          simp only [List.map_cons, List.cons.injEq, DataW.lit.injEq, Lit.int.injEq, true_and] at hb ⊢
          exact ⟨hb.1.symm, ih s hb.2⟩
    exact key _ _ e6
  have hcs : cs0.toList = DigP.wds DigP.consts := by rw [e1, hz]; simp [DigP.wds]
  have hc := World.var?_cell hg0 hv0 i
  rw [hc, ← Array.getElem?_toList, hcs]
  exact hv

theorem open_events {H : Type} {enc : TypeId × Value → H} {w : World} {spare : Nat → Bool} {held : Bool} {base n : Nat} {x : Value} {y : DataW H × List MemPlace} (h : DataW.trod enc Tryd.prog w base spare held n 24 [x] = some y) :
    ∃ (s : Option Addr) (l : List (Int × Int × Int × Int × Int × Int)) (cap : Nat), x = .slice s l.length cap ∧ Hp.RdV w s (l.flatMap EvP.evc) ∧ (∀ el ∈ l, (0 ≤ el.1 ∧ el.1 ≤ 18446744073709551615) ∧ (-9223372036854775808 ≤ el.2.1 ∧ el.2.1 ≤ 9223372036854775807) ∧ (-9223372036854775808 ≤ el.2.2.1 ∧ el.2.2.1 ≤ 9223372036854775807) ∧ (-9223372036854775808 ≤ el.2.2.2.1 ∧ el.2.2.2.1 ≤ 9223372036854775807) ∧ (-9223372036854775808 ≤ el.2.2.2.2.1 ∧ el.2.2.2.2.1 ≤ 9223372036854775807) ∧ (-9223372036854775808 ≤ el.2.2.2.2.2 ∧ el.2.2.2.2.2 ≤ 9223372036854775807)) ∧ (s = none → l.length = 0 ∧ cap = 0) ∧ l.length ≤ cap ∧ cap ≤ maxLen := by
  obtain ⟨s, len, cap, rfl, hl, hm, hn, hc⟩ := open_rows Tryd.underlying24 Tryd.underlying47 (by kernel_rfl) (by kernel_rfl) h
  obtain ⟨l, hll, hr, hg⟩ := rows_choose (w := w) (α := Int × Int × Int × Int × Int × Int) (enc := EvP.evc) (size := 6) (G := fun el => (0 ≤ el.1 ∧ el.1 ≤ 18446744073709551615) ∧ (-9223372036854775808 ≤ el.2.1 ∧ el.2.1 ≤ 9223372036854775807) ∧ (-9223372036854775808 ≤ el.2.2.1 ∧ el.2.2.1 ≤ 9223372036854775807) ∧ (-9223372036854775808 ≤ el.2.2.2.1 ∧ el.2.2.2.1 ≤ 9223372036854775807) ∧ (-9223372036854775808 ≤ el.2.2.2.2.1 ∧ el.2.2.2.2.1 ≤ 9223372036854775807) ∧ (-9223372036854775808 ≤ el.2.2.2.2.2 ∧ el.2.2.2.2.2 ≤ 9223372036854775807)) (s := s) (len := len) (fun _ => rfl) (fun h0 => by
    obtain ⟨p, hp, hc⟩ := hc h0
    refine ⟨p, hp, fun i hi => ?_⟩
    obtain ⟨x0, y0, n0, h0, t0⟩ := hc i hi 0 _ rfl
    obtain ⟨x1, y1, n1, h1, t1⟩ := hc i hi 1 _ rfl
    obtain ⟨x2, y2, n2, h2, t2⟩ := hc i hi 2 _ rfl
    obtain ⟨x3, y3, n3, h3, t3⟩ := hc i hi 3 _ rfl
    obtain ⟨x4, y4, n4, h4, t4⟩ := hc i hi 4 _ rfl
    obtain ⟨x5, y5, n5, h5, t5⟩ := hc i hi 5 _ rfl
    obtain ⟨m0, e0, _, w0⟩ := DataW.trod_int Tryd.underlying25 t0
    obtain ⟨m1, e1, _, w1⟩ := DataW.trod_int Tryd.underlying3 t1
    obtain ⟨m2, e2, _, w2⟩ := DataW.trod_int Tryd.underlying3 t2
    obtain ⟨m3, e3, _, w3⟩ := DataW.trod_int Tryd.underlying3 t3
    obtain ⟨m4, e4, _, w4⟩ := DataW.trod_int Tryd.underlying3 t4
    obtain ⟨m5, e5, _, w5⟩ := DataW.trod_int Tryd.underlying3 t5
    simp only [List.cons.injEq, and_true] at e0 e1 e2 e3 e4 e5
    subst e0 e1 e2 e3 e4 e5
    refine ⟨(m0, m1, m2, m3, m4, m5), ⟨wf_u64 w0, wf_i64 w1, wf_i64 w2, wf_i64 w3, wf_i64 w4, wf_i64 w5⟩, fun j v hv => ?_⟩
    match j with
    | 0 => obtain rfl := Option.some.inj hv; exact h0
    | 1 => obtain rfl := Option.some.inj hv; exact h1
    | 2 => obtain rfl := Option.some.inj hv; exact h2
    | 3 => obtain rfl := Option.some.inj hv; exact h3
    | 4 => obtain rfl := Option.some.inj hv; exact h4
    | 5 => obtain rfl := Option.some.inj hv; exact h5
    | j + 6 => cases hv)
  subst hll
  exact ⟨s, l, cap, rfl, hr, hg, hn, hl, hm⟩
/-- What an opened row of events, of texts, of numbers holds. -/
def EvRow (w : World) (S : Option Addr × List (Int × Int × Int × Int × Int × Int) × Nat) : Prop := (Hp.RdV w S.1 (S.2.1.flatMap EvP.evc) ∧ (∀ el ∈ S.2.1, (0 ≤ el.1 ∧ el.1 ≤ 18446744073709551615) ∧ (-9223372036854775808 ≤ el.2.1 ∧ el.2.1 ≤ 9223372036854775807) ∧ (-9223372036854775808 ≤ el.2.2.1 ∧ el.2.2.1 ≤ 9223372036854775807) ∧ (-9223372036854775808 ≤ el.2.2.2.1 ∧ el.2.2.2.1 ≤ 9223372036854775807) ∧ (-9223372036854775808 ≤ el.2.2.2.2.1 ∧ el.2.2.2.2.1 ≤ 9223372036854775807) ∧ (-9223372036854775808 ≤ el.2.2.2.2.2 ∧ el.2.2.2.2.2 ≤ 9223372036854775807)) ∧ (S.1 = none → S.2.1.length = 0 ∧ S.2.2 = 0) ∧ S.2.1.length ≤ S.2.2 ∧ S.2.2 ≤ maxLen)
def TxRow (w : World) (S : Option Addr × List (List UInt8) × Nat) : Prop := (Hp.RdV w S.1 (S.2.1.map ChnP.txc) ∧ (S.1 = none → S.2.1.length = 0 ∧ S.2.2 = 0) ∧ S.2.1.length ≤ S.2.2 ∧ S.2.2 ≤ maxLen)
def InRow (w : World) (S : Option Addr × List Int × Nat) : Prop := (Hp.RdV w S.1 (S.2.1.map (Value.int .i64)) ∧ (∀ z ∈ S.2.1, -9223372036854775808 ≤ z ∧ z ≤ 9223372036854775807) ∧ (S.1 = none → S.2.1.length = 0 ∧ S.2.2 = 0) ∧ S.2.1.length ≤ S.2.2 ∧ S.2.2 ≤ maxLen)
section
variable {H : Type} {enc : TypeId × Value → H} {w : World} {spare : Nat → Bool} {held : Bool}
theorem open_digest {r : Reach} {b0 base : Nat} {v : Value} {d : DataW H} {p : List MemPlace} (hv : Value.okWide Tryd.prog w r b0 23 v) (h : DataW.Trod enc Tryd.prog w base spare held 23 v d p) : ∃ l : List UInt8, v = .agg (BatP.bA l) ∧ l.length = 32 := by
  obtain ⟨zs, rfl, h1, h2⟩ := open_arr Tryd.underlying23 Tryd.underlying5 (by kernel_rfl) (by kernel_rfl) hv h
  obtain ⟨l, e1, e2⟩ := nums_bytes zs h2
  refine ⟨l, ?_, e1.trans h1⟩
  rw [e2]; rfl
theorem open_evrow {r : Reach} {b0 base : Nat} {v : Value} {d : DataW H} {p : List MemPlace} (hv : Value.okWide Tryd.prog w r b0 24 v) (h : DataW.Trod enc Tryd.prog w base spare held 24 v d p) :
    ∃ S : Option Addr × List (Int × Int × Int × Int × Int × Int) × Nat, v = .slice S.1 S.2.1.length S.2.2 ∧ EvRow w S := by
  obtain ⟨a, len, cap, rfl⟩ := okWide_slice Tryd.underlying24 hv
  obtain ⟨fuel, hf⟩ := h
  obtain ⟨s, l, cap, e, hh⟩ := open_events (show DataW.trod enc Tryd.prog w base spare held fuel 24 [.slice a len cap] = some (d, p) by simpa [Value.cells] using hf)
  exact ⟨(s, l, cap), e, hh⟩
theorem open_texts {r : Reach} {b0 base : Nat} {v : Value} {d : DataW H} {p : List MemPlace} (hv : Value.okWide Tryd.prog w r b0 34 v) (h : DataW.Trod enc Tryd.prog w base spare held 34 v d p) :
    ∃ S : Option Addr × List (List UInt8) × Nat, v = .slice S.1 S.2.1.length S.2.2 ∧ TxRow w S := by
  obtain ⟨s, len, cap, rfl, hl, hm, hn, hc⟩ := open_cellsv Tryd.underlying34 (by kernel_rfl) hv h
  obtain ⟨zs, hz, vs, hvl, hr, hf⟩ := row_choose (w := w) (s := s) (len := len) (α := List UInt8) (F := fun a v => v = ChnP.txc a) (fun v => ∃ (z : DataW H × List MemPlace) (m : Nat), DataW.trod enc Tryd.prog w base spare held m 9 [v] = some z) (by
    rintro v ⟨z, m, hz⟩
    obtain ⟨a, ha, _, hw⟩ := DataW.trod_string Tryd.underlying9 hz
    simp only [List.cons.injEq, and_true] at ha
    exact ⟨a.data.toList, by rw [ha, ChnP.txc, bstr_of]⟩) (fun h0 => by
    obtain ⟨p, hp, hc⟩ := hc h0
    exact ⟨p, hp, fun i hi => by obtain ⟨v, z, m, h1, h2⟩ := hc i hi; exact ⟨v, h1, z, m, h2⟩⟩)
  have e : vs = zs.map ChnP.txc := List.ext_getElem (by simp [hz, hvl]) (fun i h1 h2 => by
    have := hf i (by simpa using h2) h1
    simpa using this)
  subst e
  exact ⟨(s, zs, cap), by rw [hz], hr, by rw [hz]; exact hn, by rw [hz]; exact hl, hm⟩
theorem open_ints {r : Reach} {b0 base : Nat} {v : Value} {d : DataW H} {p : List MemPlace} (hv : Value.okWide Tryd.prog w r b0 43 v) (h : DataW.Trod enc Tryd.prog w base spare held 43 v d p) :
    ∃ S : Option Addr × List Int × Nat, v = .slice S.1 S.2.1.length S.2.2 ∧ InRow w S := by
  obtain ⟨s, zs, cap, e, h1, h2, h3, h4, h5⟩ := open_numsv Tryd.underlying43 Tryd.underlying3 (by kernel_rfl) hv h
  exact ⟨(s, zs, cap), e, h1, fun z hz => wf_i64 (h2 z hz), h3, h4, h5⟩
theorem open_u64v {r : Reach} {b0 base : Nat} {v : Value} {d : DataW H} {p : List MemPlace} (hv : Value.okWide Tryd.prog w r b0 25 v) (h : DataW.Trod enc Tryd.prog w base spare held 25 v d p) : ∃ a : Int, v = .int .u64 a ∧ 0 ≤ a ∧ a ≤ 18446744073709551615 := by
  obtain ⟨a, e, rfl, rfl, hw⟩ := open_int Tryd.underlying25 hv h
  exact ⟨a, e, wf_u64 hw⟩
theorem open_byte {r : Reach} {b0 base : Nat} {v : Value} {d : DataW H} {p : List MemPlace} (hv : Value.okWide Tryd.prog w r b0 5 v) (h : DataW.Trod enc Tryd.prog w base spare held 5 v d p) : ∃ a : Int, v = .int .u8 a ∧ 0 ≤ a ∧ a ≤ 255 := by
  obtain ⟨a, e, rfl, rfl, hw⟩ := open_int Tryd.underlying5 hv h
  exact ⟨a, e, wf_u8' hw⟩
end
theorem door_met (os : Os) (args : Array Value) : laidMetH Tryd.prog laidL ((World.doorLaid Tryd.prog 400 os).forCall (fun _ _ => 0) ⟨#[], args, []⟩).memory :=
  laidMetH_of_parts3 (fuel := 8) (laidMet_of_run' 8 (by kernel_rfl) (by kernel_rfl)) (by kernel_rfl) (by kernel_rfl)

end Go.Proofs.YtfcffglgkblidaaDoor
