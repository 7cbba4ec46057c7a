
/-
  The walks of the reference's memory: Lay, Clear.
-/
import Derived.Test.YtfioeliejblboaaReg5
namespace Go.Proofs.Ytfioeliejblboaa
open Go.RowKit
set_option linter.unusedVariables false
set_option linter.unusedSimpArgs false

namespace RegP
theorem splice_step {α : Type} {ws l : List α} {o j : Nat} (hj : j < l.length) (h : o + l.length ≤ ws.length) : (splice ws o (l.take j)).set (o + j) l[j] = splice ws o (l.take (j + 1)) := by
  unfold splice
  have e1 : (ws.take o).length = o := by simp; omega
  have e2 : (l.take j).length = j := by simp; omega
  have e3 : (l.take (j + 1)).length = j + 1 := by simp; omega
  rw [List.set_append_right _ _ (by omega), e1, show o + j - o = j by omega, List.set_append_right _ _ (by omega), e2, Nat.sub_self, e3]
  rw [List.drop_eq_getElem_cons (show o + j < ws.length by omega), List.set_cons_zero, List.take_succ_eq_append_getElem hj, List.append_assoc, List.singleton_append]
  rfl
theorem splice_rep {ws : List Int} {o j z : Nat} (hj : j < z) (h : o + z ≤ ws.length) : (splice ws o (List.replicate j 0)).set (o + j) 0 = splice ws o (List.replicate (j + 1) 0) := by
  have := splice_step (ws := ws) (l := List.replicate z (0 : Int)) (o := o) (j := j) (by simpa using hj) (by simpa using h)
  rw [List.getElem_replicate, List.take_replicate, List.take_replicate, Nat.min_eq_left (by omega), Nat.min_eq_left (by omega)] at this
  exact this
theorem splice_zero {α : Type} {ws : List α} {o : Nat} : splice ws o [] = ws := by simp [splice]
theorem splice_len {α : Type} {ws l : List α} {o : Nat} (h : o + l.length ≤ ws.length) : (splice ws o l).length = ws.length := length_splice _ _ _ h
end RegP

set_option maxHeartbeats 4000000 in set_option maxRecDepth 100000 in
theorem rrlay (bm g n : Nat) (ws : List Int) (b z r : Int) (ks : Option Addr) (kn kc : Nat) (f ag : Int) (at' : Int) (ls : Option Addr) (l : List Int) (ln lc : Nat) (w0 w : World) (H : List Hp.Blk) (D : World → Prop) (sh : Hp.Sh w0 w ((g, (ints ws).toArray, 25) :: H) D) (hM : ∀ W, D W → RegP.MemIs bm g n W) (hn : n ≤ 1099511627776) (hws : ws.length = n) (hn2 : n ≤ 1073741824) (hb : -9223372036854775808 ≤ b ∧ b ≤ 9223372036854775807) (hz : -9223372036854775808 ≤ z ∧ z ≤ 9223372036854775807) (hat : -9223372036854775808 ≤ at' ∧ at' ≤ 9223372036854775807) (hl0 : ln = l.length) (hln : ln ≤ 9223372036854775807) (hL : ∀ W, D W → Hp.RdV W ls (ints l)) :
    Calls Try.prog 23 #[.pointer (some ⟨bm, 0, none⟩), .agg #[.int .i64 b, .int .i64 z, .int .i64 r, .slice ks kn kc, .int .i64 f, .int .i64 ag], .int .i64 at', .slice ls ln lc] w fun e w' => RegP.SetP g (RegP.pc n b z at' l.length) (RegP.layW n ws b z at' l) w0 H D e w' := by
  have HL := Lib.hid hl0
  unfold RegP.layW
  rw [← hl0]
  clear hl0
  have HT := Lib.hid (fun W h1 h2 => rrtake bm g n ws b z r ks kn kc f ag at' ln W hn2 hb hz hat (by omega) h1 hws h2)
  have HM := Lib.hid hM
  have HL2 := Lib.hid hL
  by_cases hp : RegP.pc n b z at' ln = 0
  · obtain ⟨b, z, a, k, rfl, rfl, rfl, hk, h2, h3, h4⟩ := RegP.pc_zero hp
    obtain rfl : ln = k := by omega
    clear hk
    rw [hp] at HT
    rw [hp, if_pos rfl, show ((b : Int) + (a : Int)).toNat = b + a by omega]
    have HWS := Lib.hid hws
    have hw1 : IntKind.i64.wrap ((b : Int) + a) = (b : Int) + a := IntWalk.i64_in _ (by omega)
    clear hM hp hws hL
    generalize RegP.takeW n ws b z a ln = tk at HT
    go_enter Try.func23, Try.ntmps23
    have F := sh.facts; (try simp only [Hp.Facts, Hp.CellsAt, Nat.reduceAdd, List.cons_append, List.nil_append] at F)
    have tok_bp : True := trivial
    go_wp2_with (first
        | ((have tok := tok_bp); clear tok tok_bp; (first | (with_reducible refine Hp.wpl_box sh ?_ ?_)); exact rfl; clear sh; (try clear F); go_simp; intro bp w1 sh; have F := sh.facts; (try simp only [Hp.Facts, Hp.CellsAt, Nat.reduceAdd, List.cons_append, List.nil_append] at F))
        | ((with_reducible refine Hp.wpl_box sh ?_ ?_); exact rfl; clear sh; (try clear F); go_simp; intro b w1 sh; have F := sh.facts; (try simp only [Hp.Facts, Hp.CellsAt, Nat.reduceAdd, List.cons_append, List.nil_append] at F))
        | ((with_reducible refine Hp.atl_store ?_ ?_); exact rfl; (first | refine Hp.wp_store 0 sh rfl rfl rfl rfl (by kernel_rfl) (Nat.le_of_ble_eq_true rfl) rfl ?_ | refine Hp.wp_store 1 sh rfl rfl rfl rfl (by kernel_rfl) (Nat.le_of_ble_eq_true rfl) rfl ?_ | refine Hp.wp_store 2 sh rfl rfl rfl rfl (by kernel_rfl) (Nat.le_of_ble_eq_true rfl) rfl ?_ | refine Hp.wp_store 3 sh rfl rfl rfl rfl (by kernel_rfl) (Nat.le_of_ble_eq_true rfl) rfl ?_ | refine Hp.wp_store 4 sh rfl rfl rfl rfl (by kernel_rfl) (Nat.le_of_ble_eq_true rfl) rfl ?_ | refine Hp.wp_store 5 sh rfl rfl rfl rfl (by kernel_rfl) (Nat.le_of_ble_eq_true rfl) rfl ?_ | refine Hp.wp_store 6 sh rfl rfl rfl rfl (by kernel_rfl) (Nat.le_of_ble_eq_true rfl) rfl ?_); clear sh; (try clear F); go_simp; intro w1 sh; have F := sh.facts; (try simp only [Hp.Facts, Hp.CellsAt, Nat.reduceAdd, List.cons_append, List.nil_append] at F))
        | fail)
    go_fit (HT.out _ (HM.out _ sh.data) (Hp.RdV.ofRow (sh.own (g, (ints ws).toArray, 25) (by simp)) (fun i v h => by simpa using h))); rintro e w1 ⟨s, cp, rfl, -, -, -, hb2⟩
    replace sh := sh.call hb2
    clear hb2 F
    have F := sh.facts; (try simp only [Hp.Facts, Hp.CellsAt, Nat.reduceAdd, List.cons_append, List.nil_append] at F)
    go_wp2_with (first
        | ((with_reducible refine Hp.wpl_box sh ?_ ?_); exact rfl; clear sh; (try clear F); go_simp; intro b w1 sh; have F := sh.facts; (try simp only [Hp.Facts, Hp.CellsAt, Nat.reduceAdd, List.cons_append, List.nil_append] at F))
        | ((with_reducible refine Hp.atl_store ?_ ?_); exact rfl; (first | refine Hp.wp_store 0 sh rfl rfl rfl rfl (by kernel_rfl) (Nat.le_of_ble_eq_true rfl) rfl ?_ | refine Hp.wp_store 1 sh rfl rfl rfl rfl (by kernel_rfl) (Nat.le_of_ble_eq_true rfl) rfl ?_ | refine Hp.wp_store 2 sh rfl rfl rfl rfl (by kernel_rfl) (Nat.le_of_ble_eq_true rfl) rfl ?_ | refine Hp.wp_store 3 sh rfl rfl rfl rfl (by kernel_rfl) (Nat.le_of_ble_eq_true rfl) rfl ?_ | refine Hp.wp_store 4 sh rfl rfl rfl rfl (by kernel_rfl) (Nat.le_of_ble_eq_true rfl) rfl ?_ | refine Hp.wp_store 5 sh rfl rfl rfl rfl (by kernel_rfl) (Nat.le_of_ble_eq_true rfl) rfl ?_ | refine Hp.wp_store 6 sh rfl rfl rfl rfl (by kernel_rfl) (Nat.le_of_ble_eq_true rfl) rfl ?_); clear sh; (try clear F); go_simp; intro w1 sh; have F := sh.facts; (try simp only [Hp.Facts, Hp.CellsAt, Nat.reduceAdd, List.cons_append, List.nil_append] at F))
        | fail)
    go_loopw [11] (fun i wr => ∃ j : Nat, i = .int .i64 j ∧ j ≤ ln ∧ Hp.Sh w0 wr ((bp, #[.int .i64 b, .int .i64 z, .int .i64 r, .slice ks kn kc, .int .i64 f, .int .i64 ag], 24) :: (g, (ints (splice ws (b + a) (l.take j))).toArray, 25) :: H) D) (fun i _ => ln - (intOf i).toNat)
    case atStart => exact ⟨0, rfl, by omega, by rw [List.take_zero, RegP.splice_zero]; exact sh⟩
    case round =>
      clear sh F
      obtain ⟨j, rfl, hj, sh⟩ := hrel
      have F := sh.facts; (try simp only [Hp.Facts, Hp.CellsAt, Nat.reduceAdd, List.cons_append, List.nil_append] at F)
      by_cases hlt : j < ln
      · have hlI : (j : Int) < (ln : Int) := by omega
        have g1 : j < l.length := by rw [← HL.out]; exact hlt
        obtain ⟨p, hpp, -⟩ := HL2.out _ sh.data (by rw [ints_length]; omega)
        have HL3 := Lib.hid (fun W (h : D W) => (by have := HL2.out W h; rw [hpp] at this; exact Hp.RdV.cell this j (ints_get g1) : W.cell? (p.add j) = some (.int .u32 l[j])))
        have HS := Lib.hid (RegP.splice_step (ws := ws) (o := b + a) g1 (by rw [HWS.out, ← HL.out]; omega))
        have HLE := Lib.hid (by rw [List.size_toArray, ints_length, RegP.splice_len (by rw [HWS.out, List.length_take]; omega), HWS.out]; omega : b + a + j + 1 ≤ (ints (splice ws (b + a) (l.take j))).toArray.size)
        generalize l[j] = x at HL3 HS
        have hw2 : IntKind.i64.wrap ((b : Int) + a + j) = (b : Int) + a + j := IntWalk.i64_in _ (by omega)
        have hw3 : (0 : Int) ≤ (b : Int) + a + j := by omega
        have hw4 : (b : Int) + a + j < (n : Int) := by omega
        have hw5 : ((b : Int) + (a : Int) + (j : Int)).toNat = b + a + j := by omega
        clear g1
        subst hpp
        go_wp2_with (first
            | ((with_reducible refine Hp.wpl_box sh ?_ ?_); exact rfl; clear sh; (try clear F); go_simp; intro b w1 sh; have F := sh.facts; (try simp only [Hp.Facts, Hp.CellsAt, Nat.reduceAdd, List.cons_append, List.nil_append] at F))
            | ((with_reducible refine Hp.atl_store ?_ ?_); exact rfl; (first | refine Hp.wp_store 0 sh rfl rfl rfl rfl (by kernel_rfl) (Nat.le_of_ble_eq_true rfl) rfl ?_ | refine Hp.wp_store 1 sh rfl rfl rfl rfl (by kernel_rfl) (Nat.le_of_ble_eq_true rfl) rfl ?_ | refine Hp.wp_store 2 sh rfl rfl rfl rfl (by kernel_rfl) (Nat.le_of_ble_eq_true rfl) rfl ?_ | refine Hp.wp_store 3 sh rfl rfl rfl rfl (by kernel_rfl) (Nat.le_of_ble_eq_true rfl) rfl ?_ | refine Hp.wp_store 4 sh rfl rfl rfl rfl (by kernel_rfl) (Nat.le_of_ble_eq_true rfl) rfl ?_ | refine Hp.wp_store 5 sh rfl rfl rfl rfl (by kernel_rfl) (Nat.le_of_ble_eq_true rfl) rfl ?_ | refine Hp.wp_store 6 sh rfl rfl rfl rfl (by kernel_rfl) (Nat.le_of_ble_eq_true rfl) rfl ?_); clear sh; (try clear F); go_simp; intro w1 sh; have F := sh.facts; (try simp only [Hp.Facts, Hp.CellsAt, Nat.reduceAdd, List.cons_append, List.nil_append] at F))
            | fail)
        replace sh := sh.perm (List.Perm.swap _ _ _)
        refine Hp.region_sh1 (by kernel_rfl) sh ?_; clear sh F; intro w1 sh; have F := sh.facts; (try simp only [Hp.Facts, Hp.CellsAt, Nat.reduceAdd, List.cons_append, List.nil_append] at F)
        refine Hp.take (i := 0) (oi := ⟨some 30, Op.move (Operand.tmp 0), _, _, _, none⟩) (v := ?_) rfl (by kernel_rfl) (by kernel_rfl) (by kernel_rfl) (fun _ _ _ h => h) (by rfl) ⟨sh.facts.2, sh.data⟩ ?_ ?_
        rotate_left
        · intro w' hh
          clear hh; go_simp
          try with_reducible rfl
        (try simp only [Act.put, List.setIfInBounds_toArray, List.set_cons_zero, List.set_cons_succ])
        refine Hp.take (i := 1) (oi := ⟨some 31, Op.nilCheck (Operand.tmp 30), _, _, _, none⟩) (v := ?_) rfl (by kernel_rfl) (by kernel_rfl) (by kernel_rfl) (fun _ _ _ h => h) (by rfl) ⟨sh.facts.2, sh.data⟩ ?_ ?_
        rotate_left
        · intro w' hh
          clear hh; go_simp
          try with_reducible rfl
        (try simp only [Act.put, List.setIfInBounds_toArray, List.set_cons_zero, List.set_cons_succ])
        refine Hp.take (i := 2) (oi := ⟨some 32, Op.fieldAddr 43 (Operand.tmp 31) 0, _, _, _, none⟩) (v := ?_) rfl (by kernel_rfl) (by kernel_rfl) (by kernel_rfl) (fun _ _ _ h => h) (by rfl) ⟨sh.facts.2, sh.data⟩ ?_ ?_
        rotate_left
        · intro w' hh
          clear hh; go_simp
          try with_reducible rfl
        (try simp only [Act.put, List.setIfInBounds_toArray, List.set_cons_zero, List.set_cons_succ])
        refine Hp.take (i := 3) (oi := ⟨some 33, Op.load 22 (Operand.tmp 32), _, _, _, none⟩) (v := ?_) rfl (by kernel_rfl) (by kernel_rfl) (by kernel_rfl) (fun _ _ _ h => h) (by rfl) ⟨sh.facts.2, sh.data⟩ ?_ ?_
        rotate_left
        · intro w' hh
          have F' := hh.1; have hd := hh.2; clear hh; (try simp only [Hp.Facts, Hp.CellsAt, Nat.reduceAdd, List.cons_append, List.nil_append] at F'); have hm := RegP.MemIs.cell (HM.out _ hd); have hc := HL3.out _ hd
          go_simp
          try with_reducible rfl
        (try simp only [Act.put, List.setIfInBounds_toArray, List.set_cons_zero, List.set_cons_succ])
        refine Hp.take (i := 4) (oi := ⟨some 34, Op.fieldAddr 24 (Operand.tmp 5) 0, _, _, _, none⟩) (v := ?_) rfl (by kernel_rfl) (by kernel_rfl) (by kernel_rfl) (fun _ _ _ h => h) (by rfl) ⟨sh.facts.2, sh.data⟩ ?_ ?_
        rotate_left
        · intro w' hh
          clear hh; go_simp
          try with_reducible rfl
        (try simp only [Act.put, List.setIfInBounds_toArray, List.set_cons_zero, List.set_cons_succ])
        refine Hp.take (i := 5) (oi := ⟨some 35, Op.load 3 (Operand.tmp 34), _, _, _, none⟩) (v := ?_) rfl (by kernel_rfl) (by kernel_rfl) (by kernel_rfl) (fun _ _ _ h => h) (by rfl) ⟨sh.facts.2, sh.data⟩ ?_ ?_
        rotate_left
        · intro w' hh
          have F' := hh.1; have hd := hh.2; clear hh; (try simp only [Hp.Facts, Hp.CellsAt, Nat.reduceAdd, List.cons_append, List.nil_append] at F'); have hm := RegP.MemIs.cell (HM.out _ hd); have hc := HL3.out _ hd
          go_simp
          try with_reducible rfl
        (try simp only [Act.put, List.setIfInBounds_toArray, List.set_cons_zero, List.set_cons_succ])
        refine Hp.take (i := 6) (oi := ⟨some 36, Op.move (Operand.tmp 2), _, _, _, none⟩) (v := ?_) rfl (by kernel_rfl) (by kernel_rfl) (by kernel_rfl) (fun _ _ _ h => h) (by rfl) ⟨sh.facts.2, sh.data⟩ ?_ ?_
        rotate_left
        · intro w' hh
          clear hh; go_simp
          try with_reducible rfl
        (try simp only [Act.put, List.setIfInBounds_toArray, List.set_cons_zero, List.set_cons_succ])
        refine Hp.take (i := 7) (oi := ⟨some 37, Op.binOp BinOp.add 3 (Operand.tmp 35) (Operand.tmp 36) 3, _, _, _, none⟩) (v := ?_) rfl (by kernel_rfl) (by kernel_rfl) (by kernel_rfl) (fun _ _ _ h => h) (by rfl) ⟨sh.facts.2, sh.data⟩ ?_ ?_
        rotate_left
        · intro w' hh
          clear hh; go_simp
          try with_reducible rfl
        (try simp only [Act.put, List.setIfInBounds_toArray, List.set_cons_zero, List.set_cons_succ])
        refine Hp.take (i := 8) (oi := ⟨some 38, Op.move (Operand.tmp 11), _, _, _, none⟩) (v := ?_) rfl (by kernel_rfl) (by kernel_rfl) (by kernel_rfl) (fun _ _ _ h => h) (by rfl) ⟨sh.facts.2, sh.data⟩ ?_ ?_
        rotate_left
        · intro w' hh
          clear hh; go_simp
          try with_reducible rfl
        (try simp only [Act.put, List.setIfInBounds_toArray, List.set_cons_zero, List.set_cons_succ])
        refine Hp.take (i := 9) (oi := ⟨some 39, Op.binOp BinOp.add 3 (Operand.tmp 37) (Operand.tmp 38) 3, _, _, _, none⟩) (v := ?_) rfl (by kernel_rfl) (by kernel_rfl) (by kernel_rfl) (fun _ _ _ h => h) (by rfl) ⟨sh.facts.2, sh.data⟩ ?_ ?_
        rotate_left
        · intro w' hh
          clear hh; go_simp
          try with_reducible rfl
        (try simp only [Act.put, List.setIfInBounds_toArray, List.set_cons_zero, List.set_cons_succ])
        refine Hp.take (i := 10) (oi := ⟨some 40, Op.move (Operand.tmp 3), _, _, _, none⟩) (v := ?_) rfl (by kernel_rfl) (by kernel_rfl) (by kernel_rfl) (fun _ _ _ h => h) (by rfl) ⟨sh.facts.2, sh.data⟩ ?_ ?_
        rotate_left
        · intro w' hh
          clear hh; go_simp
          try with_reducible rfl
        (try simp only [Act.put, List.setIfInBounds_toArray, List.set_cons_zero, List.set_cons_succ])
        refine Hp.take (i := 11) (oi := ⟨some 41, Op.move (Operand.tmp 11), _, _, _, none⟩) (v := ?_) rfl (by kernel_rfl) (by kernel_rfl) (by kernel_rfl) (fun _ _ _ h => h) (by rfl) ⟨sh.facts.2, sh.data⟩ ?_ ?_
        rotate_left
        · intro w' hh
          clear hh; go_simp
          try with_reducible rfl
        (try simp only [Act.put, List.setIfInBounds_toArray, List.set_cons_zero, List.set_cons_succ])
        refine Hp.take (i := 12) (oi := ⟨some 42, Op.indexAddr 22 (Operand.tmp 40) (Operand.tmp 41), _, _, _, none⟩) (v := ?_) rfl (by kernel_rfl) (by kernel_rfl) (by kernel_rfl) (fun _ _ _ h => h) (by rfl) ⟨sh.facts.2, sh.data⟩ ?_ ?_
        rotate_left
        · intro w' hh
          clear hh; go_simp
          try with_reducible rfl
        (try simp only [Act.put, List.setIfInBounds_toArray, List.set_cons_zero, List.set_cons_succ])
        refine Hp.take (i := 13) (oi := ⟨some 43, Op.load 25 (Operand.tmp 42), _, _, _, none⟩) (v := ?_) rfl (by kernel_rfl) (by kernel_rfl) (by kernel_rfl) (fun _ _ _ h => h) (by rfl) ⟨sh.facts.2, sh.data⟩ ?_ ?_
        rotate_left
        · intro w' hh
          have F' := hh.1; have hd := hh.2; clear hh; (try simp only [Hp.Facts, Hp.CellsAt, Nat.reduceAdd, List.cons_append, List.nil_append] at F'); have hm := RegP.MemIs.cell (HM.out _ hd); have hc := HL3.out _ hd
          go_simp
          try with_reducible rfl
        (try simp only [Act.put, List.setIfInBounds_toArray, List.set_cons_zero, List.set_cons_succ])
        refine Hp.take (i := 14) (oi := ⟨some 44, Op.indexAddr 22 (Operand.tmp 33) (Operand.tmp 39), _, _, _, none⟩) (v := ?_) rfl (by kernel_rfl) (by kernel_rfl) (by kernel_rfl) (fun _ _ _ h => h) (by rfl) ⟨sh.facts.2, sh.data⟩ ?_ ?_
        rotate_left
        · intro w' hh
          clear hh; go_simp
          try with_reducible rfl
        (try simp only [Act.put, List.setIfInBounds_toArray, List.set_cons_zero, List.set_cons_succ])
        refine Hp.branch [15] (by kernel_rfl) (by simp) ?_
        refine Hp.Each.cons ?_ ?_
        · refine Hp.op_step (o := ⟨none, Op.store 25 (Operand.tmp 44) (Operand.tmp 43), _, _, _, none⟩) rfl (by rfl) (fun K hK => ?_)
          (refine Hp.wp_store 0 sh rfl rfl rfl rfl (by kernel_rfl) (HLE.out) rfl ?_); clear sh; (try clear F); go_simp; intro w1 sh; simp only [RegP.ints_set, RegP.ints_setL] at sh; have F := sh.facts; (try simp only [Hp.Facts, Hp.CellsAt, Nat.reduceAdd, List.cons_append, List.nil_append] at F)
          refine hK _ _ ⟨sh.facts.2, sh.data⟩ ?_; clear hK K; (try simp only [Act.put, List.setIfInBounds_toArray, List.set_cons_zero, List.set_cons_succ])
          refine wpAnyH_done (by kernel_rfl) ?_ _
          go_wp2; go_roundw; (case rel => exact ⟨j + 1, by go_num, by omega, by rw [← HS.out]; exact sh.perm (List.Perm.swap _ _ _)⟩); (case measure => simp [intOf]; omega)
        exact Hp.Each.nil
      · obtain rfl : j = ln := by omega
        go_wp2_with (first
            | ((with_reducible refine Hp.wpl_box sh ?_ ?_); exact rfl; clear sh; (try clear F); go_simp; intro b w1 sh; have F := sh.facts; (try simp only [Hp.Facts, Hp.CellsAt, Nat.reduceAdd, List.cons_append, List.nil_append] at F))
            | ((with_reducible refine Hp.atl_store ?_ ?_); exact rfl; (first | refine Hp.wp_store 0 sh rfl rfl rfl rfl (by kernel_rfl) (Nat.le_of_ble_eq_true rfl) rfl ?_ | refine Hp.wp_store 1 sh rfl rfl rfl rfl (by kernel_rfl) (Nat.le_of_ble_eq_true rfl) rfl ?_ | refine Hp.wp_store 2 sh rfl rfl rfl rfl (by kernel_rfl) (Nat.le_of_ble_eq_true rfl) rfl ?_ | refine Hp.wp_store 3 sh rfl rfl rfl rfl (by kernel_rfl) (Nat.le_of_ble_eq_true rfl) rfl ?_ | refine Hp.wp_store 4 sh rfl rfl rfl rfl (by kernel_rfl) (Nat.le_of_ble_eq_true rfl) rfl ?_ | refine Hp.wp_store 5 sh rfl rfl rfl rfl (by kernel_rfl) (Nat.le_of_ble_eq_true rfl) rfl ?_ | refine Hp.wp_store 6 sh rfl rfl rfl rfl (by kernel_rfl) (Nat.le_of_ble_eq_true rfl) rfl ?_); clear sh; (try clear F); go_simp; intro w1 sh; have F := sh.facts; (try simp only [Hp.Facts, Hp.CellsAt, Nat.reduceAdd, List.cons_append, List.nil_append] at F))
            | fail)
        go_ret
        exact ⟨rfl, by have h := sh.drop1; rw [HL.out, List.take_length] at h; exact h⟩
  · rw [if_neg hp]
    generalize RegP.pc n b z at' ln = c at HT hp ⊢
    generalize RegP.takeW n ws b z at' ln = tk at HT
    have h10 : (c != 0) = true := by simpa using hp
    clear hM hp hws hL
    go_enter Try.func23, Try.ntmps23
    have F := sh.facts; (try simp only [Hp.Facts, Hp.CellsAt, Nat.reduceAdd, List.cons_append, List.nil_append] at F)
    have tok_bp : True := trivial
    go_wp2_with (first
        | ((have tok := tok_bp); clear tok tok_bp; (first | (with_reducible refine Hp.wpl_box sh ?_ ?_)); exact rfl; clear sh; (try clear F); go_simp; intro bp w1 sh; have F := sh.facts; (try simp only [Hp.Facts, Hp.CellsAt, Nat.reduceAdd, List.cons_append, List.nil_append] at F))
        | ((with_reducible refine Hp.wpl_box sh ?_ ?_); exact rfl; clear sh; (try clear F); go_simp; intro b w1 sh; have F := sh.facts; (try simp only [Hp.Facts, Hp.CellsAt, Nat.reduceAdd, List.cons_append, List.nil_append] at F))
        | ((with_reducible refine Hp.atl_store ?_ ?_); exact rfl; (first | refine Hp.wp_store 0 sh rfl rfl rfl rfl (by kernel_rfl) (Nat.le_of_ble_eq_true rfl) rfl ?_ | refine Hp.wp_store 1 sh rfl rfl rfl rfl (by kernel_rfl) (Nat.le_of_ble_eq_true rfl) rfl ?_ | refine Hp.wp_store 2 sh rfl rfl rfl rfl (by kernel_rfl) (Nat.le_of_ble_eq_true rfl) rfl ?_ | refine Hp.wp_store 3 sh rfl rfl rfl rfl (by kernel_rfl) (Nat.le_of_ble_eq_true rfl) rfl ?_ | refine Hp.wp_store 4 sh rfl rfl rfl rfl (by kernel_rfl) (Nat.le_of_ble_eq_true rfl) rfl ?_ | refine Hp.wp_store 5 sh rfl rfl rfl rfl (by kernel_rfl) (Nat.le_of_ble_eq_true rfl) rfl ?_ | refine Hp.wp_store 6 sh rfl rfl rfl rfl (by kernel_rfl) (Nat.le_of_ble_eq_true rfl) rfl ?_); clear sh; (try clear F); go_simp; intro w1 sh; have F := sh.facts; (try simp only [Hp.Facts, Hp.CellsAt, Nat.reduceAdd, List.cons_append, List.nil_append] at F))
        | fail)
    go_fit (HT.out _ (HM.out _ sh.data) (Hp.RdV.ofRow (sh.own (g, (ints ws).toArray, 25) (by simp)) (fun i v h => by simpa using h))); rintro e w1 ⟨s, cp, rfl, -, -, -, hb2⟩
    replace sh := sh.call hb2
    clear hb2 F
    have F := sh.facts; (try simp only [Hp.Facts, Hp.CellsAt, Nat.reduceAdd, List.cons_append, List.nil_append] at F)
    go_wp2_with (first
        | ((with_reducible refine Hp.wpl_box sh ?_ ?_); exact rfl; clear sh; (try clear F); go_simp; intro b w1 sh; have F := sh.facts; (try simp only [Hp.Facts, Hp.CellsAt, Nat.reduceAdd, List.cons_append, List.nil_append] at F))
        | ((with_reducible refine Hp.atl_store ?_ ?_); exact rfl; (first | refine Hp.wp_store 0 sh rfl rfl rfl rfl (by kernel_rfl) (Nat.le_of_ble_eq_true rfl) rfl ?_ | refine Hp.wp_store 1 sh rfl rfl rfl rfl (by kernel_rfl) (Nat.le_of_ble_eq_true rfl) rfl ?_ | refine Hp.wp_store 2 sh rfl rfl rfl rfl (by kernel_rfl) (Nat.le_of_ble_eq_true rfl) rfl ?_ | refine Hp.wp_store 3 sh rfl rfl rfl rfl (by kernel_rfl) (Nat.le_of_ble_eq_true rfl) rfl ?_ | refine Hp.wp_store 4 sh rfl rfl rfl rfl (by kernel_rfl) (Nat.le_of_ble_eq_true rfl) rfl ?_ | refine Hp.wp_store 5 sh rfl rfl rfl rfl (by kernel_rfl) (Nat.le_of_ble_eq_true rfl) rfl ?_ | refine Hp.wp_store 6 sh rfl rfl rfl rfl (by kernel_rfl) (Nat.le_of_ble_eq_true rfl) rfl ?_); clear sh; (try clear F); go_simp; intro w1 sh; have F := sh.facts; (try simp only [Hp.Facts, Hp.CellsAt, Nat.reduceAdd, List.cons_append, List.nil_append] at F))
        | fail)
    go_ret
    exact ⟨rfl, sh.drop1⟩

end Go.Proofs.Ytfioeliejblboaa
