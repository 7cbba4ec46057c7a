/-
  The arguments of layer 2's statements, opened; the table of constants, as the card lists it.
-/
import Derived.Test.YtkakcpghgipdeaaDoorArr
import Derived.Test.YtkakcpghgipdeaaDoorDig11
import Derived.LaidMore
import Derived.Stop.Joined
namespace Go.Proofs.YtkakcpghgipdeaaDoor
open Go.ChangeShapes Go.WideShapes Go.ChangeAt Go.RowKit Go.Deep
set_option linter.unusedVariables false

theorem gConsts : Tryd.prog.globalNamed "blackbox/digest.constants" = some 0 := by kernel_rfl
theorem tConsts : (Tryd.prog.globals[0]?).map (·.type) = some 47 := by kernel_rfl
def laidL : List (String × DataW Unit) := [("blackbox/digest.constants", Rows.laid_blackbox_digest_constants)]
theorem laid_eq : (Rows.laid_blackbox_digest_constants : DataW Unit) = .agg (DigP.consts.map fun x => .lit (.int .u32 (x.toNat : Int))) := rfl
set_option maxRecDepth 100000 in
theorem of_laid {W : World} (h : laidMetH Tryd.prog laidL W) : Hp.RdV W (some ⟨0, 0, none⟩) (DigP.wds DigP.consts) := by
  rw [MakeChecks.laidMetH_plain _ _ _ (by kernel_rfl)] at h
  obtain ⟨ps, ⟨g0, t0, cs0, f0, p0, q0, hg0, ht0, hv0, hd0, _⟩, _, _⟩ := h
  obtain rfl := Option.some.inj (gConsts.symm.trans hg0)
  obtain rfl := Option.some.inj (tConsts.symm.trans ht0)
  obtain ⟨zs, e1, e2, e3, e4⟩ := trod_nums Tryd.underlying47 Tryd.underlying30 (by kernel_rfl) (by kernel_rfl) hd0
  intro _
  refine ⟨_, rfl, fun i v hv => ?_⟩
  rw [Hp.add_head]
  have hz : zs = DigP.consts.map fun x => (x.toNat : Int) := by
    have e5 : (Rows.laid_blackbox_digest_constants : DataW Unit) = _ := e4
    rw [laid_eq] at e5
    injection e5 with e6
    have key : ∀ (a : List DigP.Wd) (b : List Int), a.map (fun x => (DataW.lit (.int .u32 (x.toNat : Int)) : DataW Unit)) = b.map (fun z => .lit (.int .u32 z)) → b = a.map fun x => (x.toNat : Int) := by
      intro a
      induction a with
      | nil => intro b hb; cases b with
        | nil => rfl
        | cons => cases hb
      | cons x r ih => intro b hb; cases b with
        | nil => cases hb
        | cons z s =>
          simp only [List.map_cons, List.cons.injEq, DataW.lit.injEq, Lit.int.injEq, true_and] at hb ⊢
          exact ⟨hb.1.symm, ih s hb.2⟩
    exact key _ _ e6
  have hcs : cs0.toList = DigP.wds DigP.consts := by rw [e1, hz]; simp [DigP.wds]
  have hc := World.var?_cell hg0 hv0 i
  rw [hc, ← Array.getElem?_toList, hcs]
  exact hv

section
variable {H : Type} {enc : TypeId × Value → H} {w : World} {spare : Nat → Bool} {held : Bool}
theorem open_digest {r : Reach} {b0 base : Nat} {v : Value} {d : DataW H} {p : List MemPlace} (hv : Value.okWide Tryd.prog w r b0 23 v) (h : DataW.Trod enc Tryd.prog w base spare held 23 v d p) : ∃ l : List UInt8, v = .agg (DigP.bA l) ∧ l.length = 32 := by
  obtain ⟨zs, rfl, h1, h2⟩ := open_arr Tryd.underlying23 Tryd.underlying5 (by kernel_rfl) (by kernel_rfl) hv h
  obtain ⟨l, e1, e2⟩ := nums_bytes zs h2
  refine ⟨l, ?_, e1.trans h1⟩
  rw [e2]; rfl
theorem nums_words : ∀ (zs : List Int), (∀ z ∈ zs, (Lit.int .u32 z).wf = true) → ∃ l : List DigP.Wd, l.length = zs.length ∧ zs.map (Value.int .u32) = DigP.wds l
  | [], _ => ⟨[], rfl, rfl⟩
  | z :: r, h => by
    obtain ⟨l, h1, h2⟩ := nums_words r (fun x hx => h x (by simp [hx]))
    have hz := wf_u32 (h z (by simp))
    refine ⟨BitVec.ofNat 32 z.toNat :: l, by simp [h1], ?_⟩
    rw [List.map_cons, h2]
    have : ((BitVec.ofNat 32 z.toNat).toNat : Int) = z := by simp; omega
    show _ = Value.int .u32 ((BitVec.ofNat 32 z.toNat).toNat : Int) :: DigP.wds l
    rw [this]
theorem open_state {r : Reach} {b0 base : Nat} {v : Value} {d : DataW H} {p : List MemPlace} (hv : Value.okWide Tryd.prog w r b0 34 v) (h : DataW.Trod enc Tryd.prog w base spare held 34 v d p) :
    ∃ s : (DigP.Wd × DigP.Wd × DigP.Wd × DigP.Wd × DigP.Wd × DigP.Wd × DigP.Wd × DigP.Wd) × Nat × List UInt8, v = .agg (DigP.stV s).toArray ∧ s.2.1 < 18446744073709551616 := by
  obtain ⟨cs, rfl, hsz⟩ := okWide_struct Tryd.underlying34 hv
  obtain ⟨fuel, hf⟩ := h
  obtain ⟨y0, n0, f0⟩ := trod_field Tryd.underlying34 hf 0 _ rfl
  obtain ⟨y1, n1, f1⟩ := trod_field Tryd.underlying34 hf 1 _ rfl
  obtain ⟨y2, n2, f2⟩ := trod_field Tryd.underlying34 hf 2 _ rfl
  have hl : (Value.agg cs).cells.toList.length = 10 := by show cs.toList.length = 10; rw [Array.length_toList, hsz]; kernel_rfl
  generalize hcl : (Value.agg cs).cells.toList = l at f0 f1 f2 hl
  have hcs : cs = l.toArray := by rw [← hcl]; show cs = cs.toList.toArray; simp
  match l, hl with
  | [c0, c1, c2, c3, c4, c5, c6, c7, c8, c9], _ =>
    have k0 : Tryd.prog.cellsOf 31 = 8 := by kernel_rfl
    have k1 : Tryd.prog.cellsOf 32 = 1 := by kernel_rfl
    have k2 : Tryd.prog.cellsOf 9 = 1 := by kernel_rfl
    replace f0 : DataW.trod enc Tryd.prog w base spare held n0 31 [c0, c1, c2, c3, c4, c5, c6, c7] = some y0 := by
      rw [show ([c0, c1, c2, c3, c4, c5, c6, c7] : List Value) = (([c0, c1, c2, c3, c4, c5, c6, c7, c8, c9] : List Value).drop 0).take (Tryd.prog.cellsOf 31) by rw [k0]; rfl]; exact f0
    replace f1 : DataW.trod enc Tryd.prog w base spare held n1 32 [c8] = some y1 := by
      rw [show ([c8] : List Value) = (([c0, c1, c2, c3, c4, c5, c6, c7, c8, c9] : List Value).drop 8).take (Tryd.prog.cellsOf 32) by rw [k1]; rfl]; exact f1
    replace f2 : DataW.trod enc Tryd.prog w base spare held n2 9 [c9] = some y2 := by
      rw [show ([c9] : List Value) = (([c0, c1, c2, c3, c4, c5, c6, c7, c8, c9] : List Value).drop 9).take (Tryd.prog.cellsOf 9) by rw [k2]; rfl]; exact f2
    obtain ⟨zs, e1, e2, e3, _⟩ := trod_nums Tryd.underlying31 Tryd.underlying30 (by kernel_rfl) (by kernel_rfl) f0
    obtain ⟨ws, g1, g2⟩ := nums_words zs e3
    obtain ⟨m, q1, _, q3⟩ := DataW.trod_int Tryd.underlying32 f1
    have hm := wf_u64 q3
    obtain ⟨z, p1, p2⟩ := DataW.trod_string Tryd.underlying9 f2
    simp only [List.cons.injEq, and_true] at q1 p1
    subst q1 p1
    rw [e2] at g1
    match ws, g1 with
    | [w0, w1, w2, w3, w4, w5, w6, w7], _ =>
      rw [g2] at e1
      simp only [DigP.wds, List.map_cons, List.map_nil, List.cons.injEq, and_true] at e1
      obtain ⟨rfl, rfl, rfl, rfl, rfl, rfl, rfl, rfl⟩ := e1
      refine ⟨((w0, w1, w2, w3, w4, w5, w6, w7), m.toNat, z.data.toList), ?_, by show m.toNat < _; omega⟩
      rw [hcs]
      show _ = Value.agg #[_, _, _, _, _, _, _, _, .int .u64 (m.toNat : Int), .string (bstr z.data.toList)]
      rw [bstr_of, show (m.toNat : Int) = m by omega]
end

theorem door_met (os : Os) (args : Array Value) : laidMetH Tryd.prog laidL ((World.doorLaid Tryd.prog 400 os).forCall (fun _ _ => 0) ⟨#[], args, []⟩).memory :=
  laidMetH_of_parts3 (fuel := 8) (laidMet_of_run' 8 (by kernel_rfl) (by kernel_rfl)) (by kernel_rfl) (by kernel_rfl)

theorem digestReads_walk' (d : List UInt8) (s : ByteArray) (w : World) (hd : d.length = 32) (hs : s.size ≤ 140737488351232) (hG : Hp.RdV w (some ⟨0, 0, none⟩) (DigP.wds DigP.consts)) : Calls Tryd.prog 3 #[.agg (DigP.bA d), .string s] w fun e w' => e = .returned (.bool true) ∧ Below w.heap.size w w' :=
  digestReads_walk d s.data.toList hd (by show s.data.size ≤ _; show s.size ≤ _; omega) w hG
theorem digestBack_walk' (d : List UInt8) (s : ByteArray) (w : World) (hd : d.length = 32) (hs : s.size ≤ 140737488351232) (hG : Hp.RdV w (some ⟨0, 0, none⟩) (DigP.wds DigP.consts)) : Calls Tryd.prog 4 #[.agg (DigP.bA d), .string s] w fun e w' => e = .returned (.bool true) ∧ Below w.heap.size w w' :=
  digestBack_walk d s.data.toList hd (by show s.data.size ≤ _; show s.size ≤ _; omega) w hG
theorem digestSums_walk' (st : (DigP.Wd × DigP.Wd × DigP.Wd × DigP.Wd × DigP.Wd × DigP.Wd × DigP.Wd × DigP.Wd) × Nat × List UInt8) (s t : ByteArray) (w : World) (hst : st.2.1 < 18446744073709551616) (_hs : s.size ≤ 140737488351232) (_ht : t.size ≤ 140737488351232) (hG : Hp.RdV w (some ⟨0, 0, none⟩) (DigP.wds DigP.consts)) :
    Calls Tryd.prog 5 #[.agg (DigP.stV st).toArray, .string s, .string t] w fun e w' => e = .returned (.bool true) ∧ Below w.heap.size w w' := by
  obtain ⟨⟨a, b, c, d, e, f, g, h⟩, n, r⟩ := st
  by_cases q : 1000 < r.length ∨ 1000 < s.data.toList.length ∨ 1000 < t.data.toList.length
  · exact digestSums_big a b c d e f g h n r s.data.toList t.data.toList q w
  · exact digestSums_small a b c d e f g h n hst r s.data.toList t.data.toList (by omega) (by omega) (by omega) w hG

end Go.Proofs.YtkakcpghgipdeaaDoor
