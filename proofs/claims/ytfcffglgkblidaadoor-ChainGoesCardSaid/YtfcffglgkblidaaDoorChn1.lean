
/-
  The walks of slices.Clone and chain.Link.
-/
import Derived.Test.YtfcffglgkblidaaDoorBat11
import Derived.Test.YtfcffglgkblidaaDoorBat7
import Derived.Test.YtfcffglgkblidaaDoorDig10
import Derived.Test.YtfcffglgkblidaaDoorChnLen
import Derived.Lib.LazyBuf
namespace Go.Proofs.YtfcffglgkblidaaDoor
open Go.RowKit
set_option linter.unusedVariables false
set_option linter.unusedSimpArgs false
theorem EvP.evs_ones (L : List EvP.Ev) : ∀ u ∈ L.flatMap EvP.evc, u.oneCell' = true := by
  intro u hu
  obtain ⟨x, -, hx⟩ := List.mem_flatMap.1 hu
  simp only [EvP.evc, List.mem_cons, List.not_mem_nil, or_false] at hx
  rcases hx with rfl | rfl | rfl | rfl | rfl | rfl <;> rfl
theorem cof (l : List UInt8) (hl : l.length ≤ 1048576) (w : World) (hG : Hp.RdV w (some ⟨0, 0, none⟩) (DigP.wds DigP.consts)) : Calls Tryd.prog 21 #[.string (bstr l)] w fun e w' => e = .returned (.agg (BatP.bA (DigP.of l))) ∧ Below w.heap.size w w' := dof l hl w hG
theorem bld_bt (s : Option Addr) (n c : Nat) (p : List UInt8) (hp : p.length = 32) (w : World) : (Instr.build 27 #[(1, .slice s n c), (2, .agg (BatP.bA p))]).run Tryd.prog w = .ok (.agg (BatP.btA 0 (.slice s n c) p)) w :=
  match p, hp with
  | [x0, x1, x2, x3, x4, x5, x6, x7, x8, x9, x10, x11, x12, x13, x14, x15, x16, x17, x18, x19, x20, x21, x22, x23, x24, x25, x26, x27, x28, x29, x30, x31], _ => by kernel_rfl
theorem bld_bt2 (s : Option Addr) (n c : Nat) (p : List UInt8) (hp : p.length = 32) (w : World) : (Instr.build 27 #[(2, .agg (BatP.bA p)), (1, .slice s n c)]).run Tryd.prog w = .ok (.agg (BatP.btA 0 (.slice s n c) p)) w :=
  match p, hp with
  | [x0, x1, x2, x3, x4, x5, x6, x7, x8, x9, x10, x11, x12, x13, x14, x15, x16, x17, x18, x19, x20, x21, x22, x23, x24, x25, x26, x27, x28, x29, x30, x31], _ => by kernel_rfl
namespace Hp
theorem RowIs.empty (g : Nat) (e : TypeId) (size : Nat) : RowIs e size (.slice (some ⟨g, 0, none⟩) 0 0) 0 [] [(g, #[], e)] := ⟨by simp, .inr ⟨g, 0, #[], rfl, rfl, Nat.le_refl _, Nat.zero_le _, by simp, by simp⟩⟩
section
variable {P : Program} {w0 w : World} {H : List Blk} {D : World → Prop} {dst : Option Tmp} {ty : TypeId} {pos : String} {af : Array Edge} {gd : Option (Nat × Bool)} {a : Act} {K : Act → World → Prop} {Q : Exit → Act → World → Prop}
theorem exec_build {ev : Operand → Value} {T : TypeId} {i j : Nat} {x y : Operand} {u v z : Value} (hx : ev x = u) (hy : ev y = v) (h : (Instr.build T #[(i, u), (j, v)]).run P w = .ok z w) :
    (execOp ev ⟨dst, .build T #[(i, x), (j, y)], ty, pos, af, gd⟩).run P w = .ok (.value z) w := by
  simp [execOp, hx, hy, h, Result.andThen]
theorem atl_build (T : TypeId) {ops : Array Oper} {rest : List Oper} {i j : Nat} {x y : Operand} {u v z : Value} (hw : Region.wanted ⟨dst, .build T #[(i, x), (j, y)], ty, pos, af, gd⟩ (yielded ops a.tmps) = true) (hx : a.eval x = u) (hy : a.eval y = v) (h : (Instr.build T #[(i, u), (j, v)]).run P w = .ok z w)
    (k : wpList P ops Q rest (a.put dst z) w) : wpList P ops Q (⟨dst, .build T #[(i, x), (j, y)], ty, pos, af, gd⟩ :: rest) a w :=
  list_of hw (by
    have hr := exec_build (dst := dst) (ty := ty) (pos := pos) (af := af) (gd := gd) hx hy h
    unfold Oper.wp
    simpa [hr, Oper.upon, Result.andThen] using k)
theorem bld_evs {ops : Array Oper} {rest : List Oper} {T : TypeId} {x : Operand} (i : Nat) {b : Nat} {f : Int} {s : Option Addr} {n c : Nat} {p : List UInt8} {t e : TypeId} (sh : Sh w0 w H D) (hw : Region.wanted ⟨dst, .load T x, ty, pos, af, gd⟩ (yielded ops a.tmps) = true) (hx : a.eval x = .pointer (some ⟨b, 1, none⟩)) (hi : H[i]? = some (b, BatP.btA f (.slice s n c) p, t)) (hu : P.underlying T = some (.slice e))
    (k : wpList P ops Q rest (a.put dst (.slice s n c)) w) : wpList P ops Q (⟨dst, .load T x, ty, pos, af, gd⟩ :: rest) a w := by
  refine list_of hw ?_
  have hc := boxH (sh.own _ (List.mem_of_getElem? hi)) 1 (v := .slice s n c) rfl
  have hagg : (isAgg T).run P w = .ok false w := by
    unfold isAgg
    rw [Sem.run_bind, run_underlying hu w]
    rfl
  have h3 : (loadVar T ⟨b, 1, none⟩).run P w = .ok (.slice s n c) w := by simp [loadVar, Sem.run_bind, hagg, hc]
  have h2 : (execOp a.eval ⟨dst, .load T x, ty, pos, af, gd⟩).run P w = .ok (.value (.slice s n c)) w := by simp [execOp, hx, Instr.loadAt, Instr.sureAddr, h3, Result.andThen]
  unfold Oper.wp
  rw [h2]
  exact k
end
end Hp
namespace ChnP
def CloP (l : List Ev) (w : World) (e : Ending) (w' : World) : Prop := ∃ s c, e = .returned (.slice s l.length c) ∧ (∀ p, s = some p → w.heap.size ≤ p.block) ∧ Hp.RdV w' s (l.flatMap EvP.evc) ∧ Below w.heap.size w w' ∧ l.length ≤ c ∧ c ≤ maxLen
def LinkP (X : (BatP.Ba × Bs) × Int) (w : World) (e : Ending) (w' : World) : Prop :=
  ∃ s c, e = .returned (.tuple #[.agg (BatP.btA X.1.1.1 (.slice s X.1.1.2.1.length c) X.1.1.2.2), .string (bstr X.1.2), .int .i64 X.2]) ∧ (∀ p, s = some p → w.heap.size ≤ p.block) ∧ Hp.RdV w' s (X.1.1.2.1.flatMap EvP.evc) ∧ Below w.heap.size w w' ∧ X.1.1.2.1.length ≤ c ∧ c ≤ maxLen
theorem link_no {p : Bs} {l : List Ev} (h : BatP.isB (firstOf l, l, p) = false) : link p l = ((BatP.zeroB, []), 1) := by unfold link; rw [if_neg (by rw [h]; simp)]
theorem link_yes {p : Bs} {l : List Ev} (h : BatP.isB (firstOf l, l, p) = true) : link p l = (((firstOf l, l, p), BatP.outL (firstOf l, l, p)), 0) := by unfold link; rw [if_pos h]
theorem LinkP.no {X : (BatP.Ba × Bs) × Int} {w w' : World} (h : X = ((BatP.zeroB, []), 1)) (hb : Below w.heap.size w w') {e : Ending} (he : e = .returned (.tuple #[.agg (BatP.btA 0 (.slice none 0 0) BatP.zeros), .string (bstr []), .int .i64 1])) : LinkP X w e w' := by
  subst h
  exact ⟨none, 0, he, (fun p h => by cases h), Hp.RdV.nil _ _, hb, Nat.le_refl _, Nat.zero_le _⟩
theorem LinkP.yes {X : (BatP.Ba × Bs) × Int} {b : BatP.Ba} {o : Bs} {nl : Nat} {w w' : World} {s : Option Addr} {c : Nat} (h : X = ((b, o), 0)) (hn : b.2.1.length = nl) (hb : Below w.heap.size w w') (hf : ∀ p, s = some p → w.heap.size ≤ p.block) (hR : Hp.RdV w' s (b.2.1.flatMap EvP.evc)) (h1 : nl ≤ c) (h2 : c ≤ maxLen) {e : Ending} (he : e = .returned (.tuple #[.agg (BatP.btA b.1 (.slice s nl c) b.2.2), .string (bstr o), .int .i64 0])) : LinkP X w e w' := by
  subst h hn
  exact ⟨s, c, he, hf, hR, hb, h1, h2⟩
theorem first_cell {W : World} {p : Addr} {l : List Ev} (h : Hp.RdV W (some p) (l.flatMap EvP.evc)) (h0 : 0 < l.length) : W.cell? p = some (.int .u64 (firstOf l)) := by
  have q := Hp.row_cell0 EvP.evc_len h h0 (v := .int .u64 (l.getD 0 EvP.zero).1) (by rw [List.getD_eq_getElem?_getD, List.getElem?_eq_getElem h0]; rfl)
  rwa [EvP.add_z] at q
end ChnP

set_option maxHeartbeats 2000000 in
set_option maxRecDepth 100000 in
theorem cclone (s : Option Addr) (n c : Nat) (l : List EvP.Ev) (hn : n = l.length) (hnc : n ≤ c) (hnone : s = none → n = 0 ∧ c = 0) (hm : n ≤ 100000) (w : World) (hR : Hp.RdV w s (l.flatMap EvP.evc)) :
    Calls Tryd.prog 23 #[.slice s n c] w fun e w' => ChnP.CloP l w e w' := by
  have sh := (Hp.Sh.start (RdV_rob hR) : Hp.Sh w w [] (fun W => Hp.RdV W s (l.flatMap EvP.evc)))
  cases s with
  | none =>
    obtain ⟨rfl, rfl⟩ := hnone rfl
    obtain rfl : l = [] := List.length_eq_zero_iff.1 hn.symm
    clear hn hnc hnone hm hR
    have e0 : ∀ W : World, (binOp .eql 24 (.slice none 0 0) (.slice none 0 0)).run Tryd.prog W = .ok (.bool true) W := fun W => run_eql_slice_nil W _ _ none 0 0 Tryd.underlying24
    go_enter Tryd.func23, Tryd.ntmps23
    have F := sh.fxb
    go_wp2_with (first
        | ((with_reducible first | refine Hp.wpl_box sh ?_ ?_ | refine Hp.wpa sh ?_ ?_ | refine Hp.atl_store ?_ ?_); exact rfl; (try (refine Hp.wsB sh ?_)); clear sh; (try clear F); go_simp; (first | intro b w1 sh | intro w1 sh); have F := sh.fxb)
        | fail)
    go_ret
    exact ⟨none, 0, rfl, (fun p h => by cases h), Hp.RdV.nil _ _, sh.below, Nat.le_refl _, Nat.zero_le _⟩
  | some pp =>
    have HN := Lib.hid hn.symm
    clear hn hnone hR
    have e0 : ∀ W : World, (binOp .eql 24 (.slice (some pp) n c) (.slice none 0 0)).run Tryd.prog W = .ok (.bool false) W := fun W => run_eql_slice_nil W _ _ (some pp) n c Tryd.underlying24
    go_enter Tryd.func23, Tryd.ntmps23
    have F := sh.fxb
    go_wp2_with (first
        | ((with_reducible refine Hp.atl_lit ?_ ?_); exact rfl; (refine wp_lits (m := 0) (c := #[]) (t := 47) (fun w => by kernel_rfl) sh ?_); clear sh; (try clear F); intro g w1 sh; go_simp; (have F := sh.fxb))
        | ((with_reducible refine Hp.atl_append 5 ?_ ?_); exact rfl; (refine Hp.wp_append (R := [(g, #[], 47)]) (H := []) (news := l.flatMap EvP.evc) Tryd.i_evt Tryd.underlying24 (by decide) rfl (by decide) sh (Hp.RowIs.empty g _ 6) rfl rfl (by rw [Hp.flat_length EvP.evc_len, HN.out]) sh.data (fun h => by cases h) (EvP.evs_ones _) (by omega) ?_); clear sh; (try clear F); intro v1 R1 w1 sh hr; rw [Nat.zero_add, List.nil_append] at hr; obtain ⟨s1, c1, rfl, -, hc9, hm9⟩ := hr.slice; have HR1 := Lib.hid hr; clear hr; go_simp)
        | ((with_reducible first | refine Hp.wpl_box sh ?_ ?_ | refine Hp.wpa sh ?_ ?_ | refine Hp.atl_store ?_ ?_); exact rfl; (try (refine Hp.wsB sh ?_)); clear sh; (try clear F); go_simp; (first | intro b w1 sh | intro w1 sh); have F := sh.fxb)
        | fail)
    go_ret
    exact ⟨s1, c1, (by rw [HN.out]; rfl), Hp.row_new sh HR1.out, (Hp.Sh.freeze sh HR1.out).data.1, sh.below, by rw [HN.out]; exact hc9, hm9⟩

set_option maxHeartbeats 2000000 in
set_option maxRecDepth 100000 in
theorem clink (p : List UInt8) (hp : p.length = 32) (s : Option Addr) (n c : Nat) (l : List EvP.Ev) (hn : n = l.length) (hnc : n ≤ c) (hcm : c ≤ maxLen) (hnone : s = none → n = 0 ∧ c = 0) (hm : n ≤ 100000) (hE : ∀ x ∈ l, EvP.EvB x) (w : World) (hR : Hp.RdV w s (l.flatMap EvP.evc)) :
    Calls Tryd.prog 9 #[.agg (BatP.bA p), .slice s n c] w fun e w' => ChnP.LinkP (ChnP.link p l) w e w' := by
  have sh := (Hp.Sh.start (RdV_rob hR) : Hp.Sh w w [] (fun W => Hp.RdV W s (l.flatMap EvP.evc)))
  have hfi := ChnP.firstOf_in (fun x hx => (hE x hx).1)
  have K1 := Lib.hid (fun W q => cclone s n c l hn hnc hnone hm W q)
  have K2 := Lib.hid (fun s1 c1 hc W r => bput (ChnP.firstOf l) s1 n c1 l p hp hfi hn hc (by omega) hE W r)
  have HPL := Lib.hid hp
  have HQ := Lib.hid (show p.length = BatP.zeros.length from hp)
  have HLN := Lib.hid hn.symm
  have HF0 := Lib.hid (fun (h : 0 < n) W pp (r : Hp.RdV W (some pp) (l.flatMap EvP.evc)) => ChnP.first_cell r (by omega))
  have HFZ := Lib.hid (show n = 0 → ChnP.firstOf l = 0 from fun h => by
    have : l = [] := List.length_eq_zero_iff.1 (by omega)
    rw [this]; rfl)
  have HPP := Lib.hid (fun (h : 0 < n) => (show ∃ pp, s = some pp by
    obtain ⟨pp, hpp, -⟩ := hR (Hp.flat_pos EvP.evc_len (by decide) (k := 0) (by omega))
    exact ⟨pp, hpp⟩))
  generalize hf : ChnP.firstOf l = f at K2 HF0 HFZ
  have HFE := Lib.hid hf
  clear hf hfi
  clear hp hn hE hR hcm hnone
  go_enter Tryd.func9, Tryd.ntmps9
  have F := sh.fxb
  have tok_b2 : True := trivial
  have tok_b4 : True := trivial
  go_wp2_with (first
      | ((with_reducible first | refine Hp.wpl_box sh ?_ ?_ | refine Hp.wpa sh ?_ ?_ | refine Hp.atl_store ?_ ?_); exact rfl; (try (refine Hp.wsB sh ?_)); clear sh; (try clear F); go_simp; (first | (have tok := tok_b2; clear tok tok_b2; intro b2 w1 sh) | (have tok := tok_b4; clear tok tok_b4; intro b4 w1 sh) | intro b w1 sh | intro w1 sh); have F := sh.fxb)
      | fail)
  go_upto_region 1 with (fail)
  go_cut [7] from 7 to 13 (fun t wx => ∃ (b7 : Nat) (s1 : Option Addr) (c1 : Nat), t = .pointer (some ⟨b7, 0, none⟩) ∧ n ≤ c1 ∧ c1 ≤ maxLen ∧ (∀ p, s1 = some p → w.heap.size ≤ p.block) ∧ Hp.Sh w wx [(b7, BatP.btA 0 (.slice s1 n c1) p, 27), (b4, BatP.btA 0 (.slice none 0 0) BatP.zeros, 27), (b2, BatP.bA p, 23)] (fun W => Hp.RdV W s1 (l.flatMap EvP.evc) ∧ Hp.RdV W s (l.flatMap EvP.evc)))
  case first =>
    refine Hp.region_soft (by kernel_rfl) sh (fun _ q => q) ?_; clear sh; (try clear F)
    (try simp only [Hp.p2, Hp.p3])
    (refine Hp.tks (i := 0) (oi := ⟨some 10, Op.move (Operand.tmp 1), _, _, _, none⟩) (fun _ q => q) ?_)
    (refine Hp.tk (i := 2) (oi := ⟨some 12, Op.load 23 (Operand.tmp 2), _, _, _, none⟩) _ (fun _ q => q) (fun W hW => (Hp.bexec_load 1 hW rfl rfl (by kernel_rfl) (BatP.dg_size HPL.out))) ?_)
    refine Hp.soft_two (i := 1) (j := 4) (by kernel_rfl) ?_ ?_
    · refine Hp.soft_step (o := ⟨some 11, Op.call { callee := Callee.value (Operand.func 23), args := #[Operand.tmp 10], argTypes := #[24] }, _, _, _, none⟩) rfl (by rfl) (fun w1 sh K hK => ?_); (try clear F); (try have F := Hp.Sh.facts sh); (try simp only [Hp.Facts, Hp.CellsAt, BatP.cellsAt_bt, Nat.reduceAdd, Hp.c1, Hp.c2] at F); (go_simp; go_fit (K1.out _ sh.data); rintro e w1 ⟨s1, c1, rfl, hn9, hr9, hb9, hc1, hm1⟩; have sh0 := sh; replace sh := Hp.gain sh hb9 hn9 hr9; (have HF1 := Lib.hid (fun p (h : s1 = some p) => Nat.le_trans sh0.below.size (hn9 p h))); rw [HLN.out] at hc1; clear hn9 hr9 hb9 sh0; rw [HLN.out]); refine hK _ _ _ _ _ _ (fun _ q => q) (fun _ q => q.imp fun W h => h.2) sh ?_; clear hK K; clear sh; (try clear F); (try simp only [Act.put, Hp.p1, Hp.p2, Hp.p3])
      (refine Hp.tk (i := 3) (oi := ⟨some 13, Op.build 27 #[(1, Operand.tmp 11), (2, Operand.tmp 12)], _, _, _, none⟩) _ (fun _ q => q) (fun W hW => (Hp.exec_build rfl rfl (bld_bt _ _ _ _ HPL.out _))) ?_)
      refine Hp.soft_make (i := 4) (o := ⟨some 7, Op.alloc 27, _, _, _, none⟩) (by kernel_rfl) rfl (by rfl) (fun w1 sh K hK => ?_); (try clear F); (try have F := Hp.Sh.facts sh); (try simp only [Hp.Facts, Hp.CellsAt, BatP.cellsAt_bt, Nat.reduceAdd, Hp.c1, Hp.c2] at F); (refine Hp.wp_alloc Tryd.z_bt sh ?_; clear sh; (try clear F); go_simp; intro b7 w1 sh; (have F := sh.fxb)); refine hK _ _ _ _ _ _ (fun _ q => (Hp.Sh.drop1 q)) (fun _ q => q) sh ?_; clear hK K; clear sh; (try clear F); (try simp only [Act.put, Hp.p1, Hp.p2, Hp.p3])
      refine Hp.soft_make (i := 5) (o := ⟨none, Op.store 27 (Operand.tmp 7) (Operand.tmp 13), _, _, _, none⟩) (by kernel_rfl) rfl (by rfl) (fun w1 sh K hK => ?_); (try clear F); (try have F := Hp.Sh.facts sh); (try simp only [Hp.Facts, Hp.CellsAt, BatP.cellsAt_bt, Nat.reduceAdd, Hp.c1, Hp.c2] at F); (refine Hp.bst_all 0 sh rfl rfl rfl HQ.out (BatP.bt_size' rfl) ?_; clear sh; (try clear F); go_simp; intro w1 sh; (have F := sh.fxb)); refine hK _ _ _ _ _ _ (fun _ q => (Hp.Sh.drop1 q)) (fun _ q => q) sh ?_; clear hK K; clear sh; (try clear F); (try simp only [Act.put, Hp.p1, Hp.p2, Hp.p3])
      refine Hp.soft_done (by kernel_rfl) (fun w1 sh => ?_) _; (try clear F); (try have F := Hp.Sh.facts sh); (try simp only [Hp.Facts, Hp.CellsAt, BatP.cellsAt_bt, Nat.reduceAdd, Hp.c1, Hp.c2] at F)
      (go_wp2_with fail; go_meet; (case rel => exact ⟨b7, s1, c1, rfl, hc1, hm1, HF1.out, sh⟩))
    · refine Hp.soft_step (o := ⟨some 7, Op.alloc 27, _, _, _, none⟩) rfl (by rfl) (fun w1 sh K hK => ?_); (try clear F); (try have F := Hp.Sh.facts sh); (try simp only [Hp.Facts, Hp.CellsAt, BatP.cellsAt_bt, Nat.reduceAdd, Hp.c1, Hp.c2] at F); (refine Hp.wp_alloc Tryd.z_bt sh ?_; clear sh; (try clear F); go_simp; intro b7 w1 sh; (have F := sh.fxb)); refine hK _ _ _ _ _ _ (fun _ q => (Hp.Sh.drop1 q)) (fun _ q => q) sh ?_; clear hK K; clear sh; (try clear F); (try simp only [Act.put, Hp.p1, Hp.p2, Hp.p3])
      refine Hp.soft_make (i := 1) (o := ⟨some 11, Op.call { callee := Callee.value (Operand.func 23), args := #[Operand.tmp 10], argTypes := #[24] }, _, _, _, none⟩) (by kernel_rfl) rfl (by rfl) (fun w1 sh K hK => ?_); (try clear F); (try have F := Hp.Sh.facts sh); (try simp only [Hp.Facts, Hp.CellsAt, BatP.cellsAt_bt, Nat.reduceAdd, Hp.c1, Hp.c2] at F); (go_simp; go_fit (K1.out _ sh.data); rintro e w1 ⟨s1, c1, rfl, hn9, hr9, hb9, hc1, hm1⟩; have sh0 := sh; replace sh := Hp.gain sh hb9 hn9 hr9; (have HF1 := Lib.hid (fun p (h : s1 = some p) => Nat.le_trans sh0.below.size (hn9 p h))); rw [HLN.out] at hc1; clear hn9 hr9 hb9 sh0; rw [HLN.out]); refine hK _ _ _ _ _ _ (fun _ q => (Hp.Sh.drop1 q)) (fun _ q => q.imp fun W h => h.2) sh ?_; clear hK K; clear sh; (try clear F); (try simp only [Act.put, Hp.p1, Hp.p2, Hp.p3])
      (refine Hp.tk (i := 3) (oi := ⟨some 13, Op.build 27 #[(1, Operand.tmp 11), (2, Operand.tmp 12)], _, _, _, none⟩) _ (fun _ q => (Hp.Sh.drop1 q)) (fun W hW => (Hp.exec_build rfl rfl (bld_bt _ _ _ _ HPL.out _))) ?_)
      refine Hp.soft_make (i := 5) (o := ⟨none, Op.store 27 (Operand.tmp 7) (Operand.tmp 13), _, _, _, none⟩) (by kernel_rfl) rfl (by rfl) (fun w1 sh K hK => ?_); (try clear F); (try have F := Hp.Sh.facts sh); (try simp only [Hp.Facts, Hp.CellsAt, BatP.cellsAt_bt, Nat.reduceAdd, Hp.c1, Hp.c2] at F); (refine Hp.bst_all 0 sh rfl rfl rfl HQ.out (BatP.bt_size' rfl) ?_; clear sh; (try clear F); go_simp; intro w1 sh; (have F := sh.fxb)); refine hK _ _ _ _ _ _ (fun _ q => (Hp.Sh.drop1 q)) (fun _ q => q) sh ?_; clear hK K; clear sh; (try clear F); (try simp only [Act.put, Hp.p1, Hp.p2, Hp.p3])
      refine Hp.soft_done (by kernel_rfl) (fun w1 sh => ?_) _; (try clear F); (try have F := Hp.Sh.facts sh); (try simp only [Hp.Facts, Hp.CellsAt, BatP.cellsAt_bt, Nat.reduceAdd, Hp.c1, Hp.c2] at F)
      (go_wp2_with fail; go_meet; (case rel => exact ⟨b7, s1, c1, rfl, hc1, hm1, HF1.out, sh⟩))
  case rest =>
    clear sh F
    obtain ⟨b7, s1, c1, rfl, hc1, hm1, hf1, sh⟩ := hcut
    have HF1 := Lib.hid hf1
    clear hf1
    cases hb : BatP.isB (f, l, p) with
    | false =>
      rw [BatP.putB_no hb] at K2
      have HX := Lib.hid (ChnP.link_no (p := p) (l := l) (by rw [HFE.out]; exact hb))
      clear hb HFE
      by_cases c0 : 0 < n
      · obtain ⟨pp, rfl⟩ := HPP.out c0
        have c0I : (0 : Int) < (n : Int) := by omega
        have q0 := HF0.out c0 _ pp sh.data.2
        have F := sh.fxb
        go_wp2_with (first
            | ((with_reducible refine Hp.at_st 25 ?_ ?_); (rotate_left; exact rfl); (refine Hp.bst_first 0 sh rfl rfl rfl (by kernel_rfl) ?_); clear sh; (try clear F); go_simp; intro w1 sh; (have F := sh.fxb))
            | ((with_reducible refine Hp.at_ld 27 ?_); (refine Hp.bld_g 0 sh rfl rfl rfl (by kernel_rfl) (BatP.bt_size HPL.out) ?_); go_simp)
            | ((with_reducible first | refine Hp.wpl_box sh ?_ ?_ | refine Hp.wpa sh ?_ ?_ | refine Hp.atl_store ?_ ?_); exact rfl; (try (refine Hp.wsB sh ?_)); clear sh; (try clear F); go_simp; (first | intro b w1 sh | intro w1 sh); have F := sh.fxb)
            | fail)
        go_fit (K2.out s1 c1 hc1 _ sh.data.1)
        rintro e w1 ⟨rfl, hb⟩
        replace sh := sh.call hb; clear hb; (try clear F); have F := sh.fxb
        go_wp2_with (first
            | ((with_reducible refine Hp.at_st 27 ?_ ?_); (rotate_left; exact rfl); (refine Hp.bst_all (g := 0) (s := none) (n := 0) (c := 0) (q := BatP.zeros) 1 sh rfl rfl rfl rfl (BatP.bt_size' rfl) ?_); clear sh; (try clear F); go_simp; intro w1 sh; (have F := sh.fxb))
            | ((with_reducible first | refine Hp.wpl_box sh ?_ ?_ | refine Hp.wpa sh ?_ ?_ | refine Hp.atl_store ?_ ?_); exact rfl; (try (refine Hp.wsB sh ?_)); clear sh; (try clear F); go_simp; (first | intro b w1 sh | intro w1 sh); have F := sh.fxb)
            | fail)
        exact bodyPost_ret (Hp.res_ctt rfl rfl (sh.load 1 rfl (by kernel_rfl) (BatP.bt_size rfl))) rfl (ChnP.LinkP.no HX.out sh.below rfl)
      · obtain rfl : n = 0 := by omega
        obtain rfl := HFZ.out rfl
        have F := sh.fxb
        go_wp2_with (first
            | ((with_reducible refine Hp.at_st 25 ?_ ?_); (rotate_left; exact rfl); (refine Hp.bst_first 0 sh rfl rfl rfl (by kernel_rfl) ?_); clear sh; (try clear F); go_simp; intro w1 sh; (have F := sh.fxb))
            | ((with_reducible refine Hp.at_ld 27 ?_); (refine Hp.bld_g 0 sh rfl rfl rfl (by kernel_rfl) (BatP.bt_size HPL.out) ?_); go_simp)
            | ((with_reducible first | refine Hp.wpl_box sh ?_ ?_ | refine Hp.wpa sh ?_ ?_ | refine Hp.atl_store ?_ ?_); exact rfl; (try (refine Hp.wsB sh ?_)); clear sh; (try clear F); go_simp; (first | intro b w1 sh | intro w1 sh); have F := sh.fxb)
            | fail)
        go_fit (K2.out s1 c1 hc1 _ sh.data.1)
        rintro e w1 ⟨rfl, hb⟩
        replace sh := sh.call hb; clear hb; (try clear F); have F := sh.fxb
        go_wp2_with (first
            | ((with_reducible refine Hp.at_st 27 ?_ ?_); (rotate_left; exact rfl); (refine Hp.bst_all (g := 0) (s := none) (n := 0) (c := 0) (q := BatP.zeros) 1 sh rfl rfl rfl rfl (BatP.bt_size' rfl) ?_); clear sh; (try clear F); go_simp; intro w1 sh; (have F := sh.fxb))
            | ((with_reducible first | refine Hp.wpl_box sh ?_ ?_ | refine Hp.wpa sh ?_ ?_ | refine Hp.atl_store ?_ ?_); exact rfl; (try (refine Hp.wsB sh ?_)); clear sh; (try clear F); go_simp; (first | intro b w1 sh | intro w1 sh); have F := sh.fxb)
            | fail)
        exact bodyPost_ret (Hp.res_ctt rfl rfl (sh.load 1 rfl (by kernel_rfl) (BatP.bt_size rfl))) rfl (ChnP.LinkP.no HX.out sh.below rfl)
    | true =>
      have c0 : 0 < n := by have h9 := (BatP.isB_iff.1 hb).1; have := HLN.out; dsimp only at h9; omega
      rw [BatP.putB_yes hb] at K2
      have HX := Lib.hid (ChnP.link_yes (p := p) (l := l) (by rw [HFE.out]; exact hb))
      rw [HFE.out] at HX
      obtain ⟨pp, rfl⟩ := HPP.out c0
      have c0I : (0 : Int) < (n : Int) := by omega
      have q0 := HF0.out c0 _ pp sh.data.2
      dsimp only at K2
      clear hb HFE
      generalize BatP.outL (f, l, p) = O at K2 HX
      have F := sh.fxb
      go_wp2_with (first
          | ((with_reducible refine Hp.at_st 25 ?_ ?_); (rotate_left; exact rfl); (refine Hp.bst_first 0 sh rfl rfl rfl (by kernel_rfl) ?_); clear sh; (try clear F); go_simp; intro w1 sh; (have F := sh.fxb))
          | ((with_reducible refine Hp.at_ld 27 ?_); (refine Hp.bld_g 0 sh rfl rfl rfl (by kernel_rfl) (BatP.bt_size HPL.out) ?_); go_simp)
          | ((with_reducible first | refine Hp.wpl_box sh ?_ ?_ | refine Hp.wpa sh ?_ ?_ | refine Hp.atl_store ?_ ?_); exact rfl; (try (refine Hp.wsB sh ?_)); clear sh; (try clear F); go_simp; (first | intro b w1 sh | intro w1 sh); have F := sh.fxb)
          | fail)
      go_fit (K2.out s1 c1 hc1 _ sh.data.1)
      rintro e w1 ⟨rfl, hb⟩
      replace sh := sh.call hb; clear hb; (try clear F); have F := sh.fxb
      go_wp2_with (first
          | ((with_reducible refine Hp.at_st 27 ?_ ?_); (rotate_left; exact rfl); (refine Hp.bst_all 1 sh rfl rfl rfl HQ.out (BatP.bt_size' rfl) ?_); clear sh; (try clear F); go_simp; intro w1 sh; (have F := sh.fxb))
          | ((with_reducible refine Hp.at_ld 27 ?_); (refine Hp.bld_g 0 sh rfl rfl rfl (by kernel_rfl) (BatP.bt_size HPL.out) ?_); go_simp)
          | ((with_reducible first | refine Hp.wpl_box sh ?_ ?_ | refine Hp.wpa sh ?_ ?_ | refine Hp.atl_store ?_ ?_); exact rfl; (try (refine Hp.wsB sh ?_)); clear sh; (try clear F); go_simp; (first | intro b w1 sh | intro w1 sh); have F := sh.fxb)
          | fail)
      exact bodyPost_ret (Hp.res_ctt rfl rfl (sh.load 1 rfl (by kernel_rfl) (BatP.bt_size HPL.out))) rfl (ChnP.LinkP.yes HX.out HLN.out sh.below HF1.out sh.data.1 hc1 hm1 rfl)

end Go.Proofs.YtfcffglgkblidaaDoor