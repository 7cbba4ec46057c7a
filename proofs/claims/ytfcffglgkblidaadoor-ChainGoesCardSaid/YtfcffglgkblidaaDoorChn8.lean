
/-
  Slices of slices: events, texts.
-/
import Derived.Test.YtfcffglgkblidaaDoorChn4
namespace Go.Proofs.YtfcffglgkblidaaDoor
open Go.RowKit
set_option linter.unusedVariables false
set_option linter.unusedSimpArgs false
namespace Hp
theorem exec_cut2 {P : Program} {w : World} {ev : Operand → Value} {dst : Option Tmp} {ty : TypeId} {pos : String} {af : Array Edge} {g : Option (Nat × Bool)} {T e : TypeId} {x lo hi' : Operand} {size : Nat} (hT : P.underlying T = some (.slice e)) (hi : (P.info? e).map (·.size) = some size) {s : Option Addr} {n cap : Nat} (l h : Nat) {k1 k2 : IntKind}
    (hx : ev x = .slice s n cap) (hlo : ev lo = .int k1 (l : Nat)) (hhi : ev hi' = .int k2 (h : Nat)) (h1 : l ≤ h) (h2 : h ≤ cap) :
    (execOp ev ⟨dst, .slice T x (some lo) (some hi') none, ty, pos, af, g⟩).run P w = .ok (.value (.slice (cut s l cap size) (h - l) (cap - l))) w := by
  cases hq : P.info? e with
  | none => simp [hq] at hi
  | some i =>
    have hs : i.size = size := by simpa [hq] using hi
    simp [execOp, hx, hlo, hhi, Instr.sliceAt, Instr.slice, run_underlying hT, Instr.sliceBounds, run_sliceBound, h1, h2, sizeOf, typeInfo, hq, hs, Result.andThen, cut]
theorem exec_cut_l {P : Program} {w : World} {ev : Operand → Value} {dst : Option Tmp} {ty : TypeId} {pos : String} {af : Array Edge} {g : Option (Nat × Bool)} {T e : TypeId} {x lo : Operand} {size : Nat} (hT : P.underlying T = some (.slice e)) (hi : (P.info? e).map (·.size) = some size) {s : Option Addr} {n cap : Nat} (l : Nat) {k1 : IntKind}
    (hx : ev x = .slice s n cap) (hlo : ev lo = .int k1 (l : Nat)) (h1 : l ≤ n) :
    (execOp ev ⟨dst, .slice T x (some lo) none none, ty, pos, af, g⟩).run P w = .ok (.value (.slice (cut s l cap size) (n - l) (cap - l))) w := by
  cases hq : P.info? e with
  | none => simp [hq] at hi
  | some i =>
    have hs : i.size = size := by simpa [hq] using hi
    simp [execOp, hx, hlo, Instr.sliceAt, Instr.slice, run_underlying hT, Instr.sliceBounds, run_sliceBound, h1, sizeOf, typeInfo, hq, hs, Result.andThen, cut]
theorem exec_cut_h {P : Program} {w : World} {ev : Operand → Value} {dst : Option Tmp} {ty : TypeId} {pos : String} {af : Array Edge} {g : Option (Nat × Bool)} {T e : TypeId} {x hi' : Operand} {size : Nat} (hT : P.underlying T = some (.slice e)) (hi : (P.info? e).map (·.size) = some size) {s : Option Addr} {n cap : Nat} (h : Nat) {k1 : IntKind}
    (hx : ev x = .slice s n cap) (hhi : ev hi' = .int k1 (h : Nat)) (h1 : h ≤ cap) :
    (execOp ev ⟨dst, .slice T x none (some hi') none, ty, pos, af, g⟩).run P w = .ok (.value (.slice s h cap)) w := by
  cases hq : P.info? e with
  | none => simp [hq] at hi
  | some i =>
    have hs : i.size = size := by simpa [hq] using hi
    have hz : (if cap = 0 then s else s.map (·.add 0)) = s := by
      split
      · rfl
      · cases s <;> simp [Addr.add]
    simp [execOp, hx, hhi, Instr.sliceAt, Instr.slice, run_underlying hT, Instr.sliceBounds, run_sliceBound, h1, sizeOf, typeInfo, hq, hs, Result.andThen, hz]
end Hp
namespace ChnP
theorem flat_drop : ∀ (a : Nat) (l : List Ev), (l.drop a).flatMap EvP.evc = (l.flatMap EvP.evc).drop (a * 6)
  | 0, l => by simp
  | a + 1, [] => by simp
  | a + 1, x :: r => by
    rw [List.drop_succ_cons, flat_drop a r, List.flatMap_cons, show (a + 1) * 6 = (EvP.evc x).length + a * 6 by rw [EvP.evc_len]; omega, List.drop_append]
    simp
theorem flat_take : ∀ (a : Nat) (l : List Ev), (l.take a).flatMap EvP.evc = (l.flatMap EvP.evc).take (a * 6)
  | 0, l => by simp
  | a + 1, [] => by simp
  | a + 1, x :: r => by
    rw [List.take_succ_cons, List.flatMap_cons, flat_take a r, List.flatMap_cons, show (a + 1) * 6 = (EvP.evc x).length + a * 6 by rw [EvP.evc_len]; omega, List.take_length_add_append]
theorem cut_rdv {W : World} {s : Option Addr} {l : List Ev} {c : Nat} (h : Hp.RdV W s (l.flatMap EvP.evc)) (a m : Nat) (hc : l.length ≤ c) : Hp.RdV W (Hp.cut s a c 6) (((l.drop a).take m).flatMap EvP.evc) := by
  rw [flat_take, flat_drop]
  refine (h.cut (fun e => ?_)).take _
  rw [Hp.flat_length EvP.evc_len]; omega
theorem drop_rdv {W : World} {s : Option Addr} {l : List Ev} {c : Nat} (h : Hp.RdV W s (l.flatMap EvP.evc)) (a : Nat) (hc : l.length ≤ c) : Hp.RdV W (Hp.cut s a c 6) ((l.drop a).flatMap EvP.evc) := by
  rw [flat_drop]
  refine h.cut (fun e => ?_)
  rw [Hp.flat_length EvP.evc_len]; omega
theorem take_rdv {W : World} {s : Option Addr} {l : List Ev} (h : Hp.RdV W s (l.flatMap EvP.evc)) (m : Nat) : Hp.RdV W s ((l.take m).flatMap EvP.evc) := by
  rw [flat_take]
  exact h.take _
theorem txtake_rdv {W : World} {s : Option Addr} {L : List Bs} (h : Hp.RdV W s (L.map txc)) (m : Nat) : Hp.RdV W s ((L.take m).map txc) := by
  rw [List.map_take]
  exact h.take _
theorem txdrop_rdv {W : World} {s : Option Addr} {L : List Bs} {c : Nat} (h : Hp.RdV W s (L.map txc)) (a : Nat) (hc : L.length ≤ c) : Hp.RdV W (Hp.cut s a c 1) ((L.drop a).map txc) := by
  have h1 := h.cut (l := a) (m := c) (size := 1) (fun e => by rw [List.length_map]; omega)
  rw [Nat.mul_one] at h1
  rw [List.map_drop]
  exact h1
theorem int_cell {W : World} {p : Addr} {Z : List Int} (h : Hp.RdV W (some p) (Z.map (Value.int .i64))) {k : Nat} (hk : k < Z.length) {z : Int} (hz : Z[k] = z) : W.cell? (p.add k) = some (.int .i64 z) := by
  obtain ⟨p', hp, hc⟩ := h (by rw [List.length_map]; omega)
  obtain rfl := Option.some.inj hp
  exact hc k _ (by rw [List.getElem?_map, List.getElem?_eq_getElem hk, hz]; rfl)
def TxP (L : List Bs) (w : World) (e : Ending) (w' : World) : Prop := ∃ s c, e = .returned (.slice s L.length c) ∧ (∀ p, s = some p → w.heap.size ≤ p.block) ∧ Hp.RdV w' s (L.map txc) ∧ Below w.heap.size w w' ∧ L.length ≤ c ∧ c ≤ maxLen ∧ (s = none → L.length = 0 ∧ c = 0)
theorem TxP.mk {X M : List Bs} {m : Nat} {w w' : World} {H R : List Hp.Blk} {D : World → Prop} {s : Option Addr} {c : Nat} (h : X = M) (hn : M.length = m) (sh : Hp.Sh w w' (R ++ H) D) (hr : Hp.RowIs 9 1 (.slice s m c) m (M.map txc) R) {e : Ending} (he : e = .returned (.slice s m c)) : TxP X w e w' := by
  subst h hn
  obtain ⟨s', c', h1, h2, h3, h4⟩ := hr.slice
  cases h1
  exact ⟨s, c, he, Hp.row_new sh hr, (Hp.Sh.freeze sh hr).data.1, sh.below, h3, h4, h2⟩
theorem tx_snoc (M : List Bs) (O : Bs) : M.map txc ++ [.string (bstr O)] = (M ++ [O]).map txc := by rw [List.map_append]; rfl
theorem cut_i (z : Int) (l : List Ev) : ((cut z l : Nat) : Int) = min (max z 1) (l.length : Int) := by unfold cut; omega
theorem rows_end {a : Bs} {l : List Ev} {Z : List Int} (h : l = [] ∨ Z = []) : rowsL a l Z = [] := by
  cases Z with
  | nil => rfl
  | cons z r => rcases h with h | h
                · rw [rowsL, if_pos h]
                · cases h
theorem rows_stop {a : Bs} {l : List Ev} {z : Int} {r : List Int} (h : (link a (l.take (cut z l))).2 ≠ 0) : rowsL a l (z :: r) = [] := by
  by_cases hl : l = []
  · rw [rowsL, if_pos hl]
  · rw [rowsL, if_neg hl, if_pos h]
theorem rows_next {a O : Bs} {l : List Ev} {z : Int} {r : List Int} {b : BatP.Ba} {q : Nat} (h0 : l ≠ []) (hq : cut z l = q) (h : link a (l.take q) = ((b, O), 0)) : rowsL a l (z :: r) = O :: rowsL (DigP.of O) (l.drop q) r := by
  subst hq
  rw [rowsL, if_neg h0, h]
  dsimp only
  rw [if_neg (by simp)]
end ChnP
theorem Tryd.s_evt : (Tryd.prog.info? 47).map (·.size) = some 6 := by kernel_rfl
theorem Tryd.s_str : (Tryd.prog.info? 9).map (·.size) = some 1 := by kernel_rfl
end Go.Proofs.YtfcffglgkblidaaDoor

/-
  The walk of rows.
-/
namespace Go.Proofs.YtfcffglgkblidaaDoor
open Go.RowKit
set_option linter.unusedVariables false
set_option linter.unusedSimpArgs false

set_option maxHeartbeats 4000000 in
set_option maxRecDepth 100000 in
theorem crows (a : List UInt8) (ha : a.length = 32) (s : Option Addr) (n c : Nat) (l : List EvP.Ev) (hn : n = l.length) (hnc : n ≤ c) (hcm : c ≤ maxLen) (hnone : s = none → n = 0 ∧ c = 0) (hm : n ≤ 100000) (hE : ∀ x ∈ l, EvP.EvB x) (t : Option Addr) (k d : Nat) (Z : List Int) (hk : k = Z.length) (hkm : k ≤ 100000) (w : World) (hR : Hp.RdV w s (l.flatMap EvP.evc)) (hZ : Hp.RdV w t (Z.map (Value.int .i64))) (hG : Hp.RdV w (some ⟨0, 0, none⟩) (DigP.wds DigP.consts)) :
    Calls Tryd.prog 20 #[.agg (BatP.bA a), .slice s n c, .slice t k d] w fun e w' => ChnP.TxP (ChnP.rowsL a l Z) w e w' := by
  have sh := (Hp.Sh.start ((RdV_rob hR).and ((RdV_rob hZ).and (RdV_rob hG))) : Hp.Sh w w [] (fun W => Hp.RdV W s (l.flatMap EvP.evc) ∧ Hp.RdV W t (Z.map (Value.int .i64)) ∧ Hp.RdV W (some ⟨0, 0, none⟩) (DigP.wds DigP.consts)))
  have HN := Lib.hid hn.symm
  have HK := Lib.hid hk.symm
  have HE := Lib.hid hE
  have HNO := Lib.hid hnone
  have HX0 := Lib.hid (show ChnP.rowsL a l Z = [] ++ ChnP.rowsL a (l.drop 0) (Z.drop 0) from rfl)
  have HA0 := Lib.hid ha
  have HR0 := Lib.hid (Hp.RowIs.nil 9 1)
  clear hn hk hE hnone ha hR hZ hG
  go_enter Tryd.func20, Tryd.ntmps20
  have F := sh.fxb
  have tok_b3 : True := trivial
  go_wp2_with (first
      | ((with_reducible first | refine Hp.wpl_box sh ?_ ?_ | refine Hp.wpa sh ?_ ?_ | refine Hp.atl_store ?_ ?_); exact rfl; (try (refine Hp.wsB sh ?_)); clear sh; (try clear F); go_simp; (first | (have tok := tok_b3; clear tok tok_b3; intro b3 w1 sh) | intro b w1 sh | intro w1 sh); have F := sh.fxb)
      | fail)
  go_loopw [7, 8, 9] (fun v atv i wr => ∃ (j at' m : Nat) (R : List Hp.Blk) (M : List (List UInt8)) (a' : List UInt8), i = .int .i64 j ∧ atv = .int .i64 at' ∧ j ≤ k ∧ at' ≤ n ∧ m ≤ j ∧ Hid (Hp.RowIs 9 1 v m (M.map ChnP.txc) R ∧ M.length = m ∧ a'.length = 32 ∧ ChnP.rowsL a l Z = M ++ ChnP.rowsL a' (l.drop at') (Z.drop j)) ∧ Hp.Sh w wr ((b3, BatP.bA a', 23) :: R) (fun W => Hp.RdV W s (l.flatMap EvP.evc) ∧ Hp.RdV W t (Z.map (Value.int .i64)) ∧ Hp.RdV W (some ⟨0, 0, none⟩) (DigP.wds DigP.consts))) (fun _ _ i _ => k - (intOf i).toNat)
  case atStart => exact ⟨0, 0, 0, [], [], a, rfl, rfl, by omega, by omega, by omega, Lib.hid ⟨HR0.out, rfl, HA0.out, HX0.out⟩, sh⟩
  case round =>
    clear sh F HR0 HX0 HA0
    obtain ⟨j, at', m, R, M, a', rfl, rfl, hj, hat, hmj, HH, sh⟩ := hrel
    have HR := Lib.hid HH.out.1
    have HML := Lib.hid HH.out.2.1
    have HAL := Lib.hid HH.out.2.2.1
    have HX := Lib.hid HH.out.2.2.2
    clear HH
    obtain ⟨s4, c4, rfl, -, -, -⟩ := HR.out.slice
    by_cases hlt : j < k
    · have hlI : (j : Int) < (k : Int) := by omega
      by_cases hlat : at' < n
      · have hlaI : (at' : Int) < (n : Int) := by omega
        have hjZ : j < Z.length := by rw [HK.out]; exact hlt
        obtain ⟨pp, hpp, -⟩ := sh.data.2.1 (by rw [List.length_map]; omega)
        subst hpp
        obtain ⟨z, hz⟩ : ∃ z, Z[j] = z := ⟨_, rfl⟩
        have hdr : Z.drop j = z :: Z.drop (j + 1) := by rw [List.drop_eq_getElem_cons hjZ, hz]
        have q0 := ChnP.int_cell sh.data.2.1 hjZ hz
        rw [hdr] at HX
        have hne : l.drop at' ≠ [] := fun h => by
          have := congrArg List.length h
          rw [List.length_drop, HN.out, List.length_nil] at this
          omega
        obtain ⟨q, hq⟩ : ∃ q, ChnP.cut z (l.drop at') = q := ⟨_, rfl⟩
        have hq1 := ChnP.cut_in (n := z) hne
        have hq2 := ChnP.cut_i z (l.drop at')
        rw [hq, List.length_drop, HN.out] at hq1 hq2
        have hqn : at' + q ≤ n := by omega
        have hqc : at' + q ≤ c := by omega
        have z0 : IntKind.i64.wrap ((n : Int) - (at' : Int)) = (n : Int) - (at' : Int) := by rw [IntWalk.i64_in _ (by omega)]
        have z1 : min (max z 1) ((n : Int) - (at' : Int)) = ((q : Nat) : Int) := by rw [hq2]; congr 1; omega
        have z2 : IntKind.i64.wrap ((at' : Int) + (q : Int)) = ((at' + q : Nat) : Int) := by rw [IntWalk.i64_in _ (by omega)]; omega
        have hlq : ((l.drop at').take q).length = q := by rw [List.length_take, List.length_drop, HN.out]; omega
        have hEq : ∀ x ∈ (l.drop at').take q, EvP.EvB x := fun x hx => HE.out x (List.mem_of_mem_drop (List.mem_of_mem_take hx))
        have K1 := Lib.hid (fun W r => clink a' HAL.out (Hp.cut s at' c 6) q (c - at') ((l.drop at').take q) hlq.symm (by omega) (by omega) (fun h => by have h1 := Hp.cut_none h; have h2 := (HNO.out h1).1; omega) (by omega) hEq W r)
        have HQ := Lib.hid (show a'.length = BatP.zeros.length from HAL.out)
        have hq0 : 1 ≤ q := hq1.1
        clear hq2 hdr hz hjZ
        unfold ChnP.LinkP at K1
        cases hb : BatP.isB (ChnP.firstOf ((l.drop at').take q), (l.drop at').take q, a') with
        | false =>
          have hlk := ChnP.link_no (p := a') (l := (l.drop at').take q) hb
          have HX9 := Lib.hid (show ChnP.rowsL a l Z = M by rw [HX.out, ChnP.rows_stop (by rw [hq, hlk]; simp), List.append_nil])
          rw [hlk] at K1
          unfold BatP.zeroB at K1
          dsimp only [List.length_nil] at K1
          clear hb hlk hq hq1 hne hlq hEq HX
          have F := sh.fxb
          go_wp2_with (first
              | ((with_reducible first | refine Hp.wpl_box sh ?_ ?_ | refine Hp.wpa sh ?_ ?_ | refine Hp.atl_store ?_ ?_); exact rfl; (try (refine Hp.wsB sh ?_)); clear sh; (try clear F); go_simp; (first | intro b w1 sh | intro w1 sh); have F := sh.fxb)
              | fail)
          go_upto_region 7 with (fail)
          go_cut [11, 12, 13] from 11 to 47 (fun t11 t12 t13 wx => ∃ (b11 : Nat) (s1 : Option Addr) (c1 : Nat), t11 = .pointer (some ⟨b11, 0, none⟩) ∧ t12 = .string (bstr []) ∧ t13 = .int .i64 1 ∧ Hp.Sh w wx ((b11, BatP.btA 0 (.slice s1 0 c1) BatP.zeros, 27) :: (b3, BatP.bA a', 23) :: R) (fun W => Hp.RdV W s (l.flatMap EvP.evc) ∧ Hp.RdV W (some pp) (Z.map (Value.int .i64)) ∧ Hp.RdV W (some ⟨0, 0, none⟩) (DigP.wds DigP.consts)))
          case first =>
            refine Hp.region_soft (by kernel_rfl) sh (fun _ q => q) ?_; clear sh; (try clear F)
            (try simp only [Hp.p2, Hp.p3])
            (refine Hp.tk (i := 0) (oi := ⟨some 37, Op.load 23 (Operand.tmp 3), _, _, _, none⟩) _ (fun _ q => q) (fun W hW => (Hp.bexec_load 0 hW rfl rfl (by kernel_rfl) (BatP.dg_size HAL.out))) ?_)
            (refine Hp.tks (i := 1) (oi := ⟨some 38, Op.move (Operand.tmp 1), _, _, _, none⟩) (fun _ q => q) ?_)
            (refine Hp.tks (i := 2) (oi := ⟨some 39, Op.move (Operand.tmp 8), _, _, _, none⟩) (fun _ q => q) ?_)
            (refine Hp.tks (i := 3) (oi := ⟨some 40, Op.move (Operand.tmp 8), _, _, _, none⟩) (fun _ q => q) ?_)
            (refine Hp.tks (i := 4) (oi := ⟨some 41, Op.move (Operand.tmp 10), _, _, _, none⟩) (fun _ q => q) ?_)
            (refine Hp.tks (i := 5) (oi := ⟨some 42, Op.binOp BinOp.add 3 (Operand.tmp 40) (Operand.tmp 41) 3, _, _, _, none⟩) (fun _ q => q) ?_)
            (refine Hp.tk (i := 6) (oi := ⟨some 43, Op.slice 24 (Operand.tmp 38) (some (Operand.tmp 39)) (some (Operand.tmp 42)) none, _, _, _, none⟩) _ (fun _ q => q) (fun W hW => (Hp.exec_cut2 Tryd.underlying24 Tryd.s_evt at' (at' + q) rfl rfl rfl (by omega) hqc)) ?_)
            refine Hp.soft_two (i := 7) (j := 12) (by kernel_rfl) ?_ ?_
            · refine Hp.soft_step (o := ⟨some 44, Op.call { callee := Callee.value (Operand.func 9), args := #[Operand.tmp 37, Operand.tmp 43], argTypes := #[23, 24] }, _, _, _, none⟩) rfl (by rfl) (fun w1 sh K hK => ?_); (try clear F); (try have F := Hp.Sh.facts sh); (try simp only [Hp.Facts, Hp.CellsAt, BatP.cellsAt_bt, Nat.reduceAdd, Hp.c1, Hp.c2] at F); (go_simp; go_fit (K1.out _ (ChnP.cut_rdv sh.data.1 at' q (by rw [HN.out]; exact hnc))); rintro e w1 ⟨s1, c1, rfl, hn9, hr9, hb9, hc1, hm1⟩; replace sh := Hp.gain sh hb9 hn9 hr9; clear hn9 hr9 hb9 hm1); refine hK _ _ _ _ _ _ (fun _ q => q) (fun _ q => q.imp fun W h => h.2) sh ?_; clear hK K; clear sh; (try clear F); (try simp only [Act.put, Hp.p1, Hp.p2, Hp.p3])
              (refine Hp.tks (i := 8) (oi := ⟨some 36, Op.move (Operand.tmp 44), _, _, _, none⟩) (fun _ q => q) ?_)
              (refine Hp.tks (i := 9) (oi := ⟨some 45, Op.extract (Operand.tmp 36) 0, _, _, _, none⟩) (fun _ q => q) ?_)
              (refine Hp.tks (i := 10) (oi := ⟨some 46, Op.extract (Operand.tmp 36) 1, _, _, _, none⟩) (fun _ q => q) ?_)
              (refine Hp.tks (i := 11) (oi := ⟨some 47, Op.extract (Operand.tmp 36) 2, _, _, _, none⟩) (fun _ q => q) ?_)
              refine Hp.soft_make (i := 12) (o := ⟨some 11, Op.alloc 27, _, _, _, none⟩) (by kernel_rfl) rfl (by rfl) (fun w1 sh K hK => ?_); (try clear F); (try have F := Hp.Sh.facts sh); (try simp only [Hp.Facts, Hp.CellsAt, BatP.cellsAt_bt, Nat.reduceAdd, Hp.c1, Hp.c2] at F); (refine Hp.wp_alloc Tryd.z_bt sh ?_; clear sh; (try clear F); go_simp; intro b11 w1 sh; (have F := sh.fxb)); refine hK _ _ _ _ _ _ (fun _ q => (Hp.Sh.drop1 q)) (fun _ q => q) sh ?_; clear hK K; clear sh; (try clear F); (try simp only [Act.put, Hp.p1, Hp.p2, Hp.p3])
              refine Hp.soft_make (i := 13) (o := ⟨none, Op.store 27 (Operand.tmp 11) (Operand.tmp 45), _, _, _, none⟩) (by kernel_rfl) rfl (by rfl) (fun w1 sh K hK => ?_); (try clear F); (try have F := Hp.Sh.facts sh); (try simp only [Hp.Facts, Hp.CellsAt, BatP.cellsAt_bt, Nat.reduceAdd, Hp.c1, Hp.c2] at F); (refine Hp.bst_all 0 sh rfl rfl rfl rfl (BatP.bt_size' rfl) ?_; clear sh; (try clear F); go_simp; intro w1 sh; (have F := sh.fxb)); refine hK _ _ _ _ _ _ (fun _ q => (Hp.Sh.drop1 q)) (fun _ q => q) sh ?_; clear hK K; clear sh; (try clear F); (try simp only [Act.put, Hp.p1, Hp.p2, Hp.p3])
              (refine Hp.tks (i := 14) (oi := ⟨some 12, Op.assign (Operand.tmp 46), _, _, _, none⟩) (fun _ q => (Hp.Sh.drop1 q)) ?_)
              (refine Hp.tks (i := 15) (oi := ⟨some 13, Op.assign (Operand.tmp 47), _, _, _, none⟩) (fun _ q => (Hp.Sh.drop1 q)) ?_)
              refine Hp.soft_done (by kernel_rfl) (fun w1 sh => ?_) _; (try clear F); (try have F := Hp.Sh.facts sh); (try simp only [Hp.Facts, Hp.CellsAt, BatP.cellsAt_bt, Nat.reduceAdd, Hp.c1, Hp.c2] at F)
              (go_wp2_with fail; go_meet; (case rel => exact ⟨b11, s1, c1, rfl, rfl, rfl, sh.imp (fun W h => h.2)⟩))
            · refine Hp.soft_step (o := ⟨some 11, Op.alloc 27, _, _, _, none⟩) rfl (by rfl) (fun w1 sh K hK => ?_); (try clear F); (try have F := Hp.Sh.facts sh); (try simp only [Hp.Facts, Hp.CellsAt, BatP.cellsAt_bt, Nat.reduceAdd, Hp.c1, Hp.c2] at F); (refine Hp.wp_alloc Tryd.z_bt sh ?_; clear sh; (try clear F); go_simp; intro b11 w1 sh; (have F := sh.fxb)); refine hK _ _ _ _ _ _ (fun _ q => (Hp.Sh.drop1 q)) (fun _ q => q) sh ?_; clear hK K; clear sh; (try clear F); (try simp only [Act.put, Hp.p1, Hp.p2, Hp.p3])
              refine Hp.soft_make (i := 7) (o := ⟨some 44, Op.call { callee := Callee.value (Operand.func 9), args := #[Operand.tmp 37, Operand.tmp 43], argTypes := #[23, 24] }, _, _, _, none⟩) (by kernel_rfl) rfl (by rfl) (fun w1 sh K hK => ?_); (try clear F); (try have F := Hp.Sh.facts sh); (try simp only [Hp.Facts, Hp.CellsAt, BatP.cellsAt_bt, Nat.reduceAdd, Hp.c1, Hp.c2] at F); (go_simp; go_fit (K1.out _ (ChnP.cut_rdv sh.data.1 at' q (by rw [HN.out]; exact hnc))); rintro e w1 ⟨s1, c1, rfl, hn9, hr9, hb9, hc1, hm1⟩; replace sh := Hp.gain sh hb9 hn9 hr9; clear hn9 hr9 hb9 hm1); refine hK _ _ _ _ _ _ (fun _ q => (Hp.Sh.drop1 q)) (fun _ q => q.imp fun W h => h.2) sh ?_; clear hK K; clear sh; (try clear F); (try simp only [Act.put, Hp.p1, Hp.p2, Hp.p3])
              (refine Hp.tks (i := 8) (oi := ⟨some 36, Op.move (Operand.tmp 44), _, _, _, none⟩) (fun _ q => (Hp.Sh.drop1 q)) ?_)
              (refine Hp.tks (i := 9) (oi := ⟨some 45, Op.extract (Operand.tmp 36) 0, _, _, _, none⟩) (fun _ q => (Hp.Sh.drop1 q)) ?_)
              (refine Hp.tks (i := 10) (oi := ⟨some 46, Op.extract (Operand.tmp 36) 1, _, _, _, none⟩) (fun _ q => (Hp.Sh.drop1 q)) ?_)
              (refine Hp.tks (i := 11) (oi := ⟨some 47, Op.extract (Operand.tmp 36) 2, _, _, _, none⟩) (fun _ q => (Hp.Sh.drop1 q)) ?_)
              refine Hp.soft_make (i := 13) (o := ⟨none, Op.store 27 (Operand.tmp 11) (Operand.tmp 45), _, _, _, none⟩) (by kernel_rfl) rfl (by rfl) (fun w1 sh K hK => ?_); (try clear F); (try have F := Hp.Sh.facts sh); (try simp only [Hp.Facts, Hp.CellsAt, BatP.cellsAt_bt, Nat.reduceAdd, Hp.c1, Hp.c2] at F); (refine Hp.bst_all 0 sh rfl rfl rfl rfl (BatP.bt_size' rfl) ?_; clear sh; (try clear F); go_simp; intro w1 sh; (have F := sh.fxb)); refine hK _ _ _ _ _ _ (fun _ q => (Hp.Sh.drop1 q)) (fun _ q => q) sh ?_; clear hK K; clear sh; (try clear F); (try simp only [Act.put, Hp.p1, Hp.p2, Hp.p3])
              (refine Hp.tks (i := 14) (oi := ⟨some 12, Op.assign (Operand.tmp 46), _, _, _, none⟩) (fun _ q => (Hp.Sh.drop1 q)) ?_)
              (refine Hp.tks (i := 15) (oi := ⟨some 13, Op.assign (Operand.tmp 47), _, _, _, none⟩) (fun _ q => (Hp.Sh.drop1 q)) ?_)
              refine Hp.soft_done (by kernel_rfl) (fun w1 sh => ?_) _; (try clear F); (try have F := Hp.Sh.facts sh); (try simp only [Hp.Facts, Hp.CellsAt, BatP.cellsAt_bt, Nat.reduceAdd, Hp.c1, Hp.c2] at F)
              (go_wp2_with fail; go_meet; (case rel => exact ⟨b11, s1, c1, rfl, rfl, rfl, sh.imp (fun W h => h.2)⟩))
          case rest =>
            clear sh F
            obtain ⟨b11, s1, c1, rfl, rfl, rfl, sh⟩ := hcut
            have F := sh.fxb
            go_wp2_with (first
                | ((with_reducible first | refine Hp.wpl_box sh ?_ ?_ | refine Hp.wpa sh ?_ ?_ | refine Hp.atl_store ?_ ?_); exact rfl; (try (refine Hp.wsB sh ?_)); clear sh; (try clear F); go_simp; (first | intro b w1 sh | intro w1 sh); have F := sh.fxb)
                | fail)
            go_ret
            exact ChnP.TxP.mk HX9.out HML.out (Hp.Sh.front (A := [_, _]) sh) HR.out rfl
        | true =>
          have hlk := ChnP.link_yes (p := a') (l := (l.drop at').take q) hb
          have hrn := ChnP.rows_next (r := Z.drop (j + 1)) hne hq hlk
          have hok : BatP.Ok (ChnP.firstOf ((l.drop at').take q), (l.drop at').take q, a') := ⟨ChnP.firstOf_in (fun x hx => (hEq x hx).1), HAL.out, fun x hx => (hEq x hx).1⟩
          have hol := BatP.out_len (b := (ChnP.firstOf ((l.drop at').take q), (l.drop at').take q, a'))
          have hbl := BatP.body_len hok hb
          rw [hlk] at K1
          dsimp only at K1
          rw [hlq] at K1
          rw [hrn] at HX
          generalize BatP.outL (ChnP.firstOf ((l.drop at').take q), (l.drop at').take q, a') = O at K1 HX hol
          generalize ChnP.firstOf ((l.drop at').take q) = f at K1
          have KO := Lib.hid (fun W g => cof O (by omega) W g)
          have HX9 := Lib.hid (show ChnP.rowsL a l Z = (M ++ [O]) ++ ChnP.rowsL (DigP.of O) (l.drop (at' + q)) (Z.drop (j + 1)) by rw [HX.out, List.append_assoc, List.drop_drop]; rfl)
          have HDG := Lib.hid (ChnP.of_len O)
          have HDL := Lib.hid (show (DigP.of O).length = a'.length by rw [ChnP.of_len, HAL.out])
          generalize DigP.of O = dg at KO HX9 HDG HDL
          have HML9 := Lib.hid (show (M ++ [O]).length = m + 1 by rw [List.length_append, HML.out]; rfl)
          have z5 : IntKind.i64.wrap ((j : Int) + 1) = (j : Int) + 1 := by rw [IntWalk.i64_in _ (by omega)]
          clear hb hlk hrn hok hol hbl hq hq1 hne hlq hEq HX
          have F := sh.fxb
          go_wp2_with (first
              | ((with_reducible first | refine Hp.wpl_box sh ?_ ?_ | refine Hp.wpa sh ?_ ?_ | refine Hp.atl_store ?_ ?_); exact rfl; (try (refine Hp.wsB sh ?_)); clear sh; (try clear F); go_simp; (first | intro b w1 sh | intro w1 sh); have F := sh.fxb)
              | fail)
          go_upto_region 7 with (fail)
          go_cut [11, 12, 13] from 11 to 47 (fun t11 t12 t13 wx => ∃ (b11 : Nat) (s1 : Option Addr) (c1 : Nat), t11 = .pointer (some ⟨b11, 0, none⟩) ∧ t12 = .string (bstr O) ∧ t13 = .int .i64 0 ∧ Hp.Sh w wx ((b11, BatP.btA f (.slice s1 q c1) a', 27) :: (b3, BatP.bA a', 23) :: R) (fun W => Hp.RdV W s (l.flatMap EvP.evc) ∧ Hp.RdV W (some pp) (Z.map (Value.int .i64)) ∧ Hp.RdV W (some ⟨0, 0, none⟩) (DigP.wds DigP.consts)))
          case first =>
            refine Hp.region_soft (by kernel_rfl) sh (fun _ q => q) ?_; clear sh; (try clear F)
            (try simp only [Hp.p2, Hp.p3])
            (refine Hp.tk (i := 0) (oi := ⟨some 37, Op.load 23 (Operand.tmp 3), _, _, _, none⟩) _ (fun _ q => q) (fun W hW => (Hp.bexec_load 0 hW rfl rfl (by kernel_rfl) (BatP.dg_size HAL.out))) ?_)
            (refine Hp.tks (i := 1) (oi := ⟨some 38, Op.move (Operand.tmp 1), _, _, _, none⟩) (fun _ q => q) ?_)
            (refine Hp.tks (i := 2) (oi := ⟨some 39, Op.move (Operand.tmp 8), _, _, _, none⟩) (fun _ q => q) ?_)
            (refine Hp.tks (i := 3) (oi := ⟨some 40, Op.move (Operand.tmp 8), _, _, _, none⟩) (fun _ q => q) ?_)
            (refine Hp.tks (i := 4) (oi := ⟨some 41, Op.move (Operand.tmp 10), _, _, _, none⟩) (fun _ q => q) ?_)
            (refine Hp.tks (i := 5) (oi := ⟨some 42, Op.binOp BinOp.add 3 (Operand.tmp 40) (Operand.tmp 41) 3, _, _, _, none⟩) (fun _ q => q) ?_)
            (refine Hp.tk (i := 6) (oi := ⟨some 43, Op.slice 24 (Operand.tmp 38) (some (Operand.tmp 39)) (some (Operand.tmp 42)) none, _, _, _, none⟩) _ (fun _ q => q) (fun W hW => (Hp.exec_cut2 Tryd.underlying24 Tryd.s_evt at' (at' + q) rfl rfl rfl (by omega) hqc)) ?_)
            refine Hp.soft_two (i := 7) (j := 12) (by kernel_rfl) ?_ ?_
            · refine Hp.soft_step (o := ⟨some 44, Op.call { callee := Callee.value (Operand.func 9), args := #[Operand.tmp 37, Operand.tmp 43], argTypes := #[23, 24] }, _, _, _, none⟩) rfl (by rfl) (fun w1 sh K hK => ?_); (try clear F); (try have F := Hp.Sh.facts sh); (try simp only [Hp.Facts, Hp.CellsAt, BatP.cellsAt_bt, Nat.reduceAdd, Hp.c1, Hp.c2] at F); (go_simp; go_fit (K1.out _ (ChnP.cut_rdv sh.data.1 at' q (by rw [HN.out]; exact hnc))); rintro e w1 ⟨s1, c1, rfl, hn9, hr9, hb9, hc1, hm1⟩; replace sh := Hp.gain sh hb9 hn9 hr9; clear hn9 hr9 hb9 hm1); refine hK _ _ _ _ _ _ (fun _ q => q) (fun _ q => q.imp fun W h => h.2) sh ?_; clear hK K; clear sh; (try clear F); (try simp only [Act.put, Hp.p1, Hp.p2, Hp.p3])
              (refine Hp.tks (i := 8) (oi := ⟨some 36, Op.move (Operand.tmp 44), _, _, _, none⟩) (fun _ q => q) ?_)
              (refine Hp.tks (i := 9) (oi := ⟨some 45, Op.extract (Operand.tmp 36) 0, _, _, _, none⟩) (fun _ q => q) ?_)
              (refine Hp.tks (i := 10) (oi := ⟨some 46, Op.extract (Operand.tmp 36) 1, _, _, _, none⟩) (fun _ q => q) ?_)
              (refine Hp.tks (i := 11) (oi := ⟨some 47, Op.extract (Operand.tmp 36) 2, _, _, _, none⟩) (fun _ q => q) ?_)
              refine Hp.soft_make (i := 12) (o := ⟨some 11, Op.alloc 27, _, _, _, none⟩) (by kernel_rfl) rfl (by rfl) (fun w1 sh K hK => ?_); (try clear F); (try have F := Hp.Sh.facts sh); (try simp only [Hp.Facts, Hp.CellsAt, BatP.cellsAt_bt, Nat.reduceAdd, Hp.c1, Hp.c2] at F); (refine Hp.wp_alloc Tryd.z_bt sh ?_; clear sh; (try clear F); go_simp; intro b11 w1 sh; (have F := sh.fxb)); refine hK _ _ _ _ _ _ (fun _ q => (Hp.Sh.drop1 q)) (fun _ q => q) sh ?_; clear hK K; clear sh; (try clear F); (try simp only [Act.put, Hp.p1, Hp.p2, Hp.p3])
              refine Hp.soft_make (i := 13) (o := ⟨none, Op.store 27 (Operand.tmp 11) (Operand.tmp 45), _, _, _, none⟩) (by kernel_rfl) rfl (by rfl) (fun w1 sh K hK => ?_); (try clear F); (try have F := Hp.Sh.facts sh); (try simp only [Hp.Facts, Hp.CellsAt, BatP.cellsAt_bt, Nat.reduceAdd, Hp.c1, Hp.c2] at F); (refine Hp.bst_all 0 sh rfl rfl rfl HQ.out (BatP.bt_size' rfl) ?_; clear sh; (try clear F); go_simp; intro w1 sh; (have F := sh.fxb)); refine hK _ _ _ _ _ _ (fun _ q => (Hp.Sh.drop1 q)) (fun _ q => q) sh ?_; clear hK K; clear sh; (try clear F); (try simp only [Act.put, Hp.p1, Hp.p2, Hp.p3])
              (refine Hp.tks (i := 14) (oi := ⟨some 12, Op.assign (Operand.tmp 46), _, _, _, none⟩) (fun _ q => (Hp.Sh.drop1 q)) ?_)
              (refine Hp.tks (i := 15) (oi := ⟨some 13, Op.assign (Operand.tmp 47), _, _, _, none⟩) (fun _ q => (Hp.Sh.drop1 q)) ?_)
              refine Hp.soft_done (by kernel_rfl) (fun w1 sh => ?_) _; (try clear F); (try have F := Hp.Sh.facts sh); (try simp only [Hp.Facts, Hp.CellsAt, BatP.cellsAt_bt, Nat.reduceAdd, Hp.c1, Hp.c2] at F)
              (go_wp2_with fail; go_meet; (case rel => exact ⟨b11, s1, c1, rfl, rfl, rfl, sh.imp (fun W h => h.2)⟩))
            · refine Hp.soft_step (o := ⟨some 11, Op.alloc 27, _, _, _, none⟩) rfl (by rfl) (fun w1 sh K hK => ?_); (try clear F); (try have F := Hp.Sh.facts sh); (try simp only [Hp.Facts, Hp.CellsAt, BatP.cellsAt_bt, Nat.reduceAdd, Hp.c1, Hp.c2] at F); (refine Hp.wp_alloc Tryd.z_bt sh ?_; clear sh; (try clear F); go_simp; intro b11 w1 sh; (have F := sh.fxb)); refine hK _ _ _ _ _ _ (fun _ q => (Hp.Sh.drop1 q)) (fun _ q => q) sh ?_; clear hK K; clear sh; (try clear F); (try simp only [Act.put, Hp.p1, Hp.p2, Hp.p3])
              refine Hp.soft_make (i := 7) (o := ⟨some 44, Op.call { callee := Callee.value (Operand.func 9), args := #[Operand.tmp 37, Operand.tmp 43], argTypes := #[23, 24] }, _, _, _, none⟩) (by kernel_rfl) rfl (by rfl) (fun w1 sh K hK => ?_); (try clear F); (try have F := Hp.Sh.facts sh); (try simp only [Hp.Facts, Hp.CellsAt, BatP.cellsAt_bt, Nat.reduceAdd, Hp.c1, Hp.c2] at F); (go_simp; go_fit (K1.out _ (ChnP.cut_rdv sh.data.1 at' q (by rw [HN.out]; exact hnc))); rintro e w1 ⟨s1, c1, rfl, hn9, hr9, hb9, hc1, hm1⟩; replace sh := Hp.gain sh hb9 hn9 hr9; clear hn9 hr9 hb9 hm1); refine hK _ _ _ _ _ _ (fun _ q => (Hp.Sh.drop1 q)) (fun _ q => q.imp fun W h => h.2) sh ?_; clear hK K; clear sh; (try clear F); (try simp only [Act.put, Hp.p1, Hp.p2, Hp.p3])
              (refine Hp.tks (i := 8) (oi := ⟨some 36, Op.move (Operand.tmp 44), _, _, _, none⟩) (fun _ q => (Hp.Sh.drop1 q)) ?_)
              (refine Hp.tks (i := 9) (oi := ⟨some 45, Op.extract (Operand.tmp 36) 0, _, _, _, none⟩) (fun _ q => (Hp.Sh.drop1 q)) ?_)
              (refine Hp.tks (i := 10) (oi := ⟨some 46, Op.extract (Operand.tmp 36) 1, _, _, _, none⟩) (fun _ q => (Hp.Sh.drop1 q)) ?_)
              (refine Hp.tks (i := 11) (oi := ⟨some 47, Op.extract (Operand.tmp 36) 2, _, _, _, none⟩) (fun _ q => (Hp.Sh.drop1 q)) ?_)
              refine Hp.soft_make (i := 13) (o := ⟨none, Op.store 27 (Operand.tmp 11) (Operand.tmp 45), _, _, _, none⟩) (by kernel_rfl) rfl (by rfl) (fun w1 sh K hK => ?_); (try clear F); (try have F := Hp.Sh.facts sh); (try simp only [Hp.Facts, Hp.CellsAt, BatP.cellsAt_bt, Nat.reduceAdd, Hp.c1, Hp.c2] at F); (refine Hp.bst_all 0 sh rfl rfl rfl HQ.out (BatP.bt_size' rfl) ?_; clear sh; (try clear F); go_simp; intro w1 sh; (have F := sh.fxb)); refine hK _ _ _ _ _ _ (fun _ q => (Hp.Sh.drop1 q)) (fun _ q => q) sh ?_; clear hK K; clear sh; (try clear F); (try simp only [Act.put, Hp.p1, Hp.p2, Hp.p3])
              (refine Hp.tks (i := 14) (oi := ⟨some 12, Op.assign (Operand.tmp 46), _, _, _, none⟩) (fun _ q => (Hp.Sh.drop1 q)) ?_)
              (refine Hp.tks (i := 15) (oi := ⟨some 13, Op.assign (Operand.tmp 47), _, _, _, none⟩) (fun _ q => (Hp.Sh.drop1 q)) ?_)
              refine Hp.soft_done (by kernel_rfl) (fun w1 sh => ?_) _; (try clear F); (try have F := Hp.Sh.facts sh); (try simp only [Hp.Facts, Hp.CellsAt, BatP.cellsAt_bt, Nat.reduceAdd, Hp.c1, Hp.c2] at F)
              (go_wp2_with fail; go_meet; (case rel => exact ⟨b11, s1, c1, rfl, rfl, rfl, sh.imp (fun W h => h.2)⟩))
          case rest =>
            clear sh F
            obtain ⟨b11, s1, c1, rfl, rfl, rfl, sh⟩ := hcut
            have F := sh.fxb
            go_wp2_with (first
                | ((with_reducible refine Hp.atl_lit ?_ ?_); exact rfl; (refine Hp.wp_lit 1 [.string (bstr O)] Tryd.i_str Tryd.underlying34 sh rfl rfl (by omega) rfl ?_); clear sh; (try clear F); intro bl w1 sh; replace sh := sh.freeze1 (vs := [.string (bstr O)]) (fun i v h => by simpa using h); (have F := sh.fxb); (try simp only [Act.put, Hp.p1, Hp.p2, Hp.p3]))
                | ((with_reducible refine Hp.atl_append 51 ?_ ?_); exact rfl; (refine Hp.wp_append (R := R) (H := [_, _]) (news := [.string (bstr O)]) Tryd.i_str Tryd.underlying34 (by decide) rfl (by decide) (Hp.Sh.front (A := [_, _]) sh) HR.out rfl rfl rfl sh.data.1 (fun h => by cases h) (Hp.ones_mem rfl) (by omega) ?_); clear sh; (try clear F); intro v9 R9 w1 sh hr; rw [ChnP.tx_snoc] at hr; obtain ⟨v9s, v9c, rfl, -, -, -⟩ := hr.slice; have HR9 := Lib.hid hr; clear hr; replace sh : Hp.Sh w _ ([_, _] ++ R9) _ := sh.perm List.perm_append_comm; simp only [List.cons_append, List.nil_append] at sh; (have F := sh.fxb); go_simp)
                | ((with_reducible first | refine Hp.wpl_box sh ?_ ?_ | refine Hp.wpa sh ?_ ?_ | refine Hp.atl_store ?_ ?_); exact rfl; (try (refine Hp.wsB sh ?_)); clear sh; (try clear F); go_simp; (first | intro b w1 sh | intro w1 sh); have F := sh.fxb)
                | fail)
            go_fit (KO.out _ sh.data.2.2.2)
            rintro e w1 ⟨rfl, hb⟩
            replace sh := sh.call hb; clear hb; (try clear F); have F := sh.fxb
            go_wp2_with (first
                | ((with_reducible refine Hp.at_st 23 ?_ ?_); (rotate_left; exact rfl); (refine Hp.bst_arr 1 sh rfl rfl rfl HDL.out (by rw [HAL.out]; kernel_rfl) ?_); clear sh; (try clear F); go_simp; intro w1 sh; (have F := sh.fxb))
                | ((with_reducible first | refine Hp.wpl_box sh ?_ ?_ | refine Hp.wpa sh ?_ ?_ | refine Hp.atl_store ?_ ?_); exact rfl; (try (refine Hp.wsB sh ?_)); clear sh; (try clear F); go_simp; (first | intro b w1 sh | intro w1 sh); have F := sh.fxb)
                | fail)
            go_roundw
            case rel => exact ⟨j + 1, at' + q, m + 1, R9, M ++ [O], dg, by go_num, by first | rfl | go_num, by omega, by omega, by omega, Lib.hid ⟨HR9.out, HML9.out, HDG.out, HX9.out⟩, (sh.drop1).imp (fun W h => h.2)⟩
            case measure => simp [intOf]; omega
      · have hlaI : ¬ (at' : Int) < (n : Int) := by omega
        have HX9 := Lib.hid (show ChnP.rowsL a l Z = M by rw [HX.out, ChnP.rows_end (.inl (List.drop_eq_nil_of_le (by rw [HN.out]; omega))), List.append_nil])
        clear HX
        have F := sh.fxb
        go_wp2_with (first
            | ((with_reducible first | refine Hp.wpl_box sh ?_ ?_ | refine Hp.wpa sh ?_ ?_ | refine Hp.atl_store ?_ ?_); exact rfl; (try (refine Hp.wsB sh ?_)); clear sh; (try clear F); go_simp; (first | intro b w1 sh | intro w1 sh); have F := sh.fxb)
            | fail)
        go_ret
        exact ChnP.TxP.mk HX9.out HML.out (Hp.Sh.front (A := [_]) sh) HR.out rfl
    · have hlI : ¬ (j : Int) < (k : Int) := by omega
      have HX9 := Lib.hid (show ChnP.rowsL a l Z = M by rw [HX.out, ChnP.rows_end (.inr (List.drop_eq_nil_of_le (by rw [HK.out]; omega))), List.append_nil])
      clear HX
      have F := sh.fxb
      go_wp2_with (first
          | ((with_reducible first | refine Hp.wpl_box sh ?_ ?_ | refine Hp.wpa sh ?_ ?_ | refine Hp.atl_store ?_ ?_); exact rfl; (try (refine Hp.wsB sh ?_)); clear sh; (try clear F); go_simp; (first | intro b w1 sh | intro w1 sh); have F := sh.fxb)
          | fail)
      go_ret
      exact ChnP.TxP.mk HX9.out HML.out (Hp.Sh.front (A := [_]) sh) HR.out rfl

end Go.Proofs.YtfcffglgkblidaaDoor
