/-
  The walk of answers.
-/
import Derived.Test.YtkloejfbepkniaaReg7
namespace Go.Proofs.Ytkloejfbepkniaa
open Go.RowKit
set_option linter.unusedVariables false
set_option linter.unusedSimpArgs false

theorem rot3 {α : Type} (a b c : α) (l : List α) : (a :: b :: c :: l).Perm (b :: c :: a :: l) := (List.Perm.swap _ _ _).trans ((List.Perm.swap _ _ _).cons _)
theorem rot3' {α : Type} (a b c : α) (l : List α) : (b :: c :: a :: l).Perm (a :: b :: c :: l) := (rot3 a b c l).symm
theorem swap2 {α : Type} (a b : α) (l : List α) : (a :: b :: l).Perm (b :: a :: l) := List.Perm.swap _ _ _
theorem sameT (s r : Option Addr) (zs : List Int) (c d : Nat) (w : World) (hs : Hp.RdV w s (ints zs)) (hr : Hp.RdV w r (ints zs)) (hn : zs.length ≤ 9223372036854775807) :
    Calls Try.prog 13 #[.slice s zs.length c, .slice r zs.length d] w fun e w' => e = .returned (.bool true) ∧ Below w.heap.size w w' := by
  have := same19 s r zs zs zs.length zs.length c d w rfl rfl hs hr hn
  rw [show (zs == zs) = true by simp] at this
  exact this
namespace RegP
def stepW (n : Nat) (ws : List Int) (kd at' nn b z : Int) (l : List Int) : List Int :=
  if kd = 1 then setW n ws b z at' (IntKind.u32.wrap nn) else if kd = 3 then layW n ws b z at' l else if kd = 4 then clearW n ws b z else ws
def RowS (vs : List Int) (w0 : World) (H : List Hp.Blk) (D : World → Prop) (e : Ending) (w' : World) : Prop := ∃ s c, e = .returned (.slice s vs.length c) ∧ Hp.Sh w0 w' H (fun W => Hp.RdV W s (ints vs) ∧ D W)
theorem RowP.sh {vs : List Int} {w0 w w' : World} {e : Ending} {H : List Hp.Blk} {D : World → Prop} (sh : Hp.Sh w0 w H D) (h : RowP vs w e w') : RowS vs w0 H D e w' := by
  obtain ⟨s, c, he, hn, -, hr, hb⟩ := h
  exact ⟨s, c, he, Hp.gain sh hb hn hr⟩
def RowCS (vs : List Int) (cd : Int) (w0 : World) (H : List Hp.Blk) (D : World → Prop) (e : Ending) (w' : World) : Prop := ∃ s c, e = .returned (.tuple #[.slice s vs.length c, .int .i64 cd]) ∧ Hp.Sh w0 w' H (fun W => Hp.RdV W s (ints vs) ∧ D W)
theorem RowCP.sh {vs : List Int} {cd : Int} {w0 w w' : World} {e : Ending} {H : List Hp.Blk} {D : World → Prop} (sh : Hp.Sh w0 w H D) (h : RowCP vs cd w e w') : RowCS vs cd w0 H D e w' := by
  obtain ⟨s, c, he, hn, -, hr, hb⟩ := h
  exact ⟨s, c, he, Hp.gain sh hb hn hr⟩
/-- A row of an own block, as data of this world. -/
theorem own_rdv {w0 w : World} {H : List Hp.Blk} {D : World → Prop} {g : Nat} {ws : List Int} {t : TypeId} (sh : Hp.Sh w0 w H D) (i : Nat) (hi : H[i]? = some (g, (ints ws).toArray, t)) : Hp.RdV w (some ⟨g, 0, none⟩) (ints ws) :=
  Hp.RdV.ofRow (sh.own _ (List.mem_of_getElem? hi)) (fun i v h => by simpa using h)
def AnsP (g h : Nat) (ws' : List Int) (w0 : World) (H : List Hp.Blk) (D : World → Prop) (e : Ending) (w' : World) : Prop := e = .returned (.bool true) ∧ Hp.Sh w0 w' ((g, (ints ws').toArray, 47) :: (h, (ints ws').toArray, 47) :: H) D
end RegP

set_option maxHeartbeats 4000000 in set_option maxRecDepth 100000 in
theorem ranswers (bm g bn h n : Nat) (ws : List Int) (kd at' nn : Int) (b z r : Int) (ks : Option Addr) (kn kc : Nat) (f ag : Int) (ls : Option Addr) (l : List Int) (ln lc : Nat) (w0 w : World) (H : List Hp.Blk) (D : World → Prop) (sh : Hp.Sh w0 w ((g, (ints ws).toArray, 47) :: (h, (ints ws).toArray, 47) :: H) D) (hn : n ≤ 1073741824) (hws : ws.length = n) (hkd : -9223372036854775808 ≤ kd ∧ kd ≤ 9223372036854775807) (hat : -9223372036854775808 ≤ at' ∧ at' ≤ 9223372036854775807) (hnn : -9223372036854775808 ≤ nn ∧ nn ≤ 9223372036854775807) (hb : -9223372036854775808 ≤ b ∧ b ≤ 9223372036854775807) (hz : -9223372036854775808 ≤ z ∧ z ≤ 9223372036854775807) (hl0 : ln = l.length) (hln : ln ≤ 9223372036854775807)
    (hM : ∀ W, D W → RegP.MemIs bm g n W) (hN : ∀ W, D W → RegP.MemIs bn h n W) (hL : ∀ W, D W → Hp.RdV W ls (ints l)) :
    Calls Try.prog 11 #[.pointer (some ⟨bm, 0, none⟩), .pointer (some ⟨bn, 0, none⟩), .agg #[.int .i64 kd, .int .i64 at', .int .i64 nn, .int .i64 b, .int .i64 z, .int .i64 r, .slice ks kn kc, .int .i64 f, .int .i64 ag, .slice ls ln lc]] w fun e w' => RegP.AnsP g h (RegP.stepW n ws kd at' nn b z l) w0 H D e w' := by
  have HM := Lib.hid hM
  have HN := Lib.hid hN
  have HL := Lib.hid hL
  have K0 : (kd = 0) ∨ (kd = 1) ∨ (kd = 2) ∨ (kd = 3) ∨ (kd = 4) ∨ (kd ≠ 0 ∧ kd ≠ 1 ∧ kd ≠ 2 ∧ kd ≠ 3 ∧ kd ≠ 4) := by omega
  rcases K0 with rfl | rfl | rfl | rfl | rfl | ⟨c0, c1, c2, c3, c4⟩
  · have HA := Lib.hid (fun W h1 h2 => rget bm g n ws b z r ks kn kc f ag at' W (by omega) hb hz hat h1 hws h2)
    have HB := Lib.hid (fun W h1 h2 => rrget bn h n ws b z r ks kn kc f ag at' W (by omega) hb hz hat h1 hws h2)
    rw [show RegP.stepW n ws 0 at' nn b z l = ws from rfl]
    generalize RegP.getV n ws b z at' = v at HA HB
    generalize RegP.pc n b z at' 1 = c at HA HB
    clear hM hN hL hws hl0
    go_enter Try.func11, Try.ntmps11
    have F := sh.facts; (try simp only [Hp.Facts, Hp.CellsAt, Nat.reduceAdd, List.cons_append, List.nil_append] at F)
    have tok_bs : True := trivial
    go_wp2_with (first
        | ((have tok := tok_bs); clear tok tok_bs; (first | (with_reducible refine Hp.wpl_box sh ?_ ?_)); exact rfl; clear sh; (try clear F); go_simp; intro bs w1 sh; have F := sh.facts; (try simp only [Hp.Facts, Hp.CellsAt, Nat.reduceAdd, List.cons_append, List.nil_append] at F))
        | ((with_reducible refine Hp.wpl_box sh ?_ ?_); exact rfl; clear sh; (try clear F); go_simp; intro b w1 sh; have F := sh.facts; (try simp only [Hp.Facts, Hp.CellsAt, Nat.reduceAdd, List.cons_append, List.nil_append] at F))
        | ((with_reducible refine Hp.atl_store ?_ ?_); exact rfl; (first | refine Hp.wp_store 0 sh rfl rfl rfl rfl (by kernel_rfl) (Nat.le_of_ble_eq_true rfl) rfl ?_ | refine Hp.wp_store 1 sh rfl rfl rfl rfl (by kernel_rfl) (Nat.le_of_ble_eq_true rfl) rfl ?_ | refine Hp.wp_store 2 sh rfl rfl rfl rfl (by kernel_rfl) (Nat.le_of_ble_eq_true rfl) rfl ?_ | refine Hp.wp_store 3 sh rfl rfl rfl rfl (by kernel_rfl) (Nat.le_of_ble_eq_true rfl) rfl ?_ | refine Hp.wp_store 4 sh rfl rfl rfl rfl (by kernel_rfl) (Nat.le_of_ble_eq_true rfl) rfl ?_ | refine Hp.wp_store 5 sh rfl rfl rfl rfl (by kernel_rfl) (Nat.le_of_ble_eq_true rfl) rfl ?_ | refine Hp.wp_store 6 sh rfl rfl rfl rfl (by kernel_rfl) (Nat.le_of_ble_eq_true rfl) rfl ?_); clear sh; (try clear F); go_simp; intro w1 sh; have F := sh.facts; (try simp only [Hp.Facts, Hp.CellsAt, Nat.reduceAdd, List.cons_append, List.nil_append] at F))
        | fail)
    go_fit (HA.out _ (HM.out _ sh.data) (RegP.own_rdv sh 1 rfl))
    rintro e w1 ⟨rfl, hb⟩
    replace sh := sh.call hb; clear hb; (try clear F); have F := sh.facts; (try simp only [Hp.Facts, Hp.CellsAt, Nat.reduceAdd, List.cons_append, List.nil_append] at F)
    go_wp2_with (first
        | ((with_reducible refine Hp.wpl_box sh ?_ ?_); exact rfl; clear sh; (try clear F); go_simp; intro b w1 sh; have F := sh.facts; (try simp only [Hp.Facts, Hp.CellsAt, Nat.reduceAdd, List.cons_append, List.nil_append] at F))
        | ((with_reducible refine Hp.atl_store ?_ ?_); exact rfl; (first | refine Hp.wp_store 0 sh rfl rfl rfl rfl (by kernel_rfl) (Nat.le_of_ble_eq_true rfl) rfl ?_ | refine Hp.wp_store 1 sh rfl rfl rfl rfl (by kernel_rfl) (Nat.le_of_ble_eq_true rfl) rfl ?_ | refine Hp.wp_store 2 sh rfl rfl rfl rfl (by kernel_rfl) (Nat.le_of_ble_eq_true rfl) rfl ?_ | refine Hp.wp_store 3 sh rfl rfl rfl rfl (by kernel_rfl) (Nat.le_of_ble_eq_true rfl) rfl ?_ | refine Hp.wp_store 4 sh rfl rfl rfl rfl (by kernel_rfl) (Nat.le_of_ble_eq_true rfl) rfl ?_ | refine Hp.wp_store 5 sh rfl rfl rfl rfl (by kernel_rfl) (Nat.le_of_ble_eq_true rfl) rfl ?_ | refine Hp.wp_store 6 sh rfl rfl rfl rfl (by kernel_rfl) (Nat.le_of_ble_eq_true rfl) rfl ?_); clear sh; (try clear F); go_simp; intro w1 sh; have F := sh.facts; (try simp only [Hp.Facts, Hp.CellsAt, Nat.reduceAdd, List.cons_append, List.nil_append] at F))
        | fail)
    go_fit (HB.out _ (HN.out _ sh.data) (RegP.own_rdv sh 2 rfl))
    rintro e w1 ⟨rfl, hb⟩
    replace sh := sh.call hb; clear hb; (try clear F); have F := sh.facts; (try simp only [Hp.Facts, Hp.CellsAt, Nat.reduceAdd, List.cons_append, List.nil_append] at F)
    go_wp2_with (first
        | ((with_reducible refine Hp.wpl_box sh ?_ ?_); exact rfl; clear sh; (try clear F); go_simp; intro b w1 sh; have F := sh.facts; (try simp only [Hp.Facts, Hp.CellsAt, Nat.reduceAdd, List.cons_append, List.nil_append] at F))
        | ((with_reducible refine Hp.atl_store ?_ ?_); exact rfl; (first | refine Hp.wp_store 0 sh rfl rfl rfl rfl (by kernel_rfl) (Nat.le_of_ble_eq_true rfl) rfl ?_ | refine Hp.wp_store 1 sh rfl rfl rfl rfl (by kernel_rfl) (Nat.le_of_ble_eq_true rfl) rfl ?_ | refine Hp.wp_store 2 sh rfl rfl rfl rfl (by kernel_rfl) (Nat.le_of_ble_eq_true rfl) rfl ?_ | refine Hp.wp_store 3 sh rfl rfl rfl rfl (by kernel_rfl) (Nat.le_of_ble_eq_true rfl) rfl ?_ | refine Hp.wp_store 4 sh rfl rfl rfl rfl (by kernel_rfl) (Nat.le_of_ble_eq_true rfl) rfl ?_ | refine Hp.wp_store 5 sh rfl rfl rfl rfl (by kernel_rfl) (Nat.le_of_ble_eq_true rfl) rfl ?_ | refine Hp.wp_store 6 sh rfl rfl rfl rfl (by kernel_rfl) (Nat.le_of_ble_eq_true rfl) rfl ?_); clear sh; (try clear F); go_simp; intro w1 sh; have F := sh.facts; (try simp only [Hp.Facts, Hp.CellsAt, Nat.reduceAdd, List.cons_append, List.nil_append] at F))
        | fail)
    go_ret
    exact ⟨rfl, sh.drop1⟩
  · have HA := Lib.hid (fun w0 W H D sh h1 => rset bm g n ws b z r ks kn kc f ag at' (IntKind.u32.wrap nn) w0 W H D sh h1 (by omega) hws hb hz hat)
    have HB := Lib.hid (fun w0 W H D sh h1 => rrset bn h n ws b z r ks kn kc f ag at' (IntKind.u32.wrap nn) w0 W H D sh h1 (by omega) hws hb hz hat)
    rw [show RegP.stepW n ws 1 at' nn b z l = RegP.setW n ws b z at' (IntKind.u32.wrap nn) from rfl]
    generalize RegP.setW n ws b z at' (IntKind.u32.wrap nn) = ws' at HA HB ⊢
    generalize RegP.pc n b z at' 1 = c at HA HB
    clear hM hN hL hws hl0
    go_enter Try.func11, Try.ntmps11
    have F := sh.facts; (try simp only [Hp.Facts, Hp.CellsAt, Nat.reduceAdd, List.cons_append, List.nil_append] at F)
    have tok_bs : True := trivial
    go_wp2_with (first
        | ((have tok := tok_bs); clear tok tok_bs; (first | (with_reducible refine Hp.wpl_box sh ?_ ?_)); exact rfl; clear sh; (try clear F); go_simp; intro bs w1 sh; have F := sh.facts; (try simp only [Hp.Facts, Hp.CellsAt, Nat.reduceAdd, List.cons_append, List.nil_append] at F))
        | ((with_reducible refine Hp.wpl_box sh ?_ ?_); exact rfl; clear sh; (try clear F); go_simp; intro b w1 sh; have F := sh.facts; (try simp only [Hp.Facts, Hp.CellsAt, Nat.reduceAdd, List.cons_append, List.nil_append] at F))
        | ((with_reducible refine Hp.atl_store ?_ ?_); exact rfl; (first | refine Hp.wp_store 0 sh rfl rfl rfl rfl (by kernel_rfl) (Nat.le_of_ble_eq_true rfl) rfl ?_ | refine Hp.wp_store 1 sh rfl rfl rfl rfl (by kernel_rfl) (Nat.le_of_ble_eq_true rfl) rfl ?_ | refine Hp.wp_store 2 sh rfl rfl rfl rfl (by kernel_rfl) (Nat.le_of_ble_eq_true rfl) rfl ?_ | refine Hp.wp_store 3 sh rfl rfl rfl rfl (by kernel_rfl) (Nat.le_of_ble_eq_true rfl) rfl ?_ | refine Hp.wp_store 4 sh rfl rfl rfl rfl (by kernel_rfl) (Nat.le_of_ble_eq_true rfl) rfl ?_ | refine Hp.wp_store 5 sh rfl rfl rfl rfl (by kernel_rfl) (Nat.le_of_ble_eq_true rfl) rfl ?_ | refine Hp.wp_store 6 sh rfl rfl rfl rfl (by kernel_rfl) (Nat.le_of_ble_eq_true rfl) rfl ?_); clear sh; (try clear F); go_simp; intro w1 sh; have F := sh.facts; (try simp only [Hp.Facts, Hp.CellsAt, Nat.reduceAdd, List.cons_append, List.nil_append] at F))
        | fail)
    replace sh := sh.perm (rot3 _ _ _ _)
    refine Hp.region_sh2 (by kernel_rfl) sh ?_; clear sh F; intro w1 sh; have F := sh.facts; (try simp only [Hp.Facts, Hp.CellsAt, Nat.reduceAdd, List.cons_append, List.nil_append] at F)
    refine Hp.take (i := 0) (oi := ⟨some 47, Op.move (Operand.tmp 0), _, _, _, none⟩) (v := ?_) rfl (by kernel_rfl) (by kernel_rfl) (by kernel_rfl) (fun _ _ _ h => h) (by rfl) ⟨sh.facts.2.2, sh.data⟩ ?_ ?_
    rotate_left
    · intro w' hh
      clear hh; go_simp
      try with_reducible rfl
    (try simp only [Act.put, List.setIfInBounds_toArray, List.set_cons_zero, List.set_cons_succ])
    refine Hp.take (i := 1) (oi := ⟨some 48, Op.fieldAddr 37 (Operand.tmp 5) 3, _, _, _, none⟩) (v := ?_) rfl (by kernel_rfl) (by kernel_rfl) (by kernel_rfl) (fun _ _ _ h => h) (by rfl) ⟨sh.facts.2.2, sh.data⟩ ?_ ?_
    rotate_left
    · intro w' hh
      clear hh; go_simp
      try with_reducible rfl
    (try simp only [Act.put, List.setIfInBounds_toArray, List.set_cons_zero, List.set_cons_succ])
    refine Hp.take (i := 2) (oi := ⟨some 49, Op.load 35 (Operand.tmp 48), _, _, _, none⟩) (v := ?_) rfl (by kernel_rfl) (by kernel_rfl) (by kernel_rfl) (fun _ _ _ h => h) (by rfl) ⟨sh.facts.2.2, sh.data⟩ ?_ ?_
    rotate_left
    · intro w' hh
      have F' := hh.1; have hd := hh.2; clear hh; (try simp only [Hp.Facts, Hp.CellsAt, Nat.reduceAdd, List.cons_append, List.nil_append] at F'); skip
      go_simp
      try with_reducible rfl
    (try simp only [Act.put, List.setIfInBounds_toArray, List.set_cons_zero, List.set_cons_succ])
    refine Hp.take (i := 3) (oi := ⟨some 50, Op.fieldAddr 37 (Operand.tmp 5) 1, _, _, _, none⟩) (v := ?_) rfl (by kernel_rfl) (by kernel_rfl) (by kernel_rfl) (fun _ _ _ h => h) (by rfl) ⟨sh.facts.2.2, sh.data⟩ ?_ ?_
    rotate_left
    · intro w' hh
      clear hh; go_simp
      try with_reducible rfl
    (try simp only [Act.put, List.setIfInBounds_toArray, List.set_cons_zero, List.set_cons_succ])
    refine Hp.take (i := 4) (oi := ⟨some 51, Op.load 3 (Operand.tmp 50), _, _, _, none⟩) (v := ?_) rfl (by kernel_rfl) (by kernel_rfl) (by kernel_rfl) (fun _ _ _ h => h) (by rfl) ⟨sh.facts.2.2, sh.data⟩ ?_ ?_
    rotate_left
    · intro w' hh
      have F' := hh.1; have hd := hh.2; clear hh; (try simp only [Hp.Facts, Hp.CellsAt, Nat.reduceAdd, List.cons_append, List.nil_append] at F'); skip
      go_simp
      try with_reducible rfl
    (try simp only [Act.put, List.setIfInBounds_toArray, List.set_cons_zero, List.set_cons_succ])
    refine Hp.take (i := 5) (oi := ⟨some 52, Op.fieldAddr 37 (Operand.tmp 5) 2, _, _, _, none⟩) (v := ?_) rfl (by kernel_rfl) (by kernel_rfl) (by kernel_rfl) (fun _ _ _ h => h) (by rfl) ⟨sh.facts.2.2, sh.data⟩ ?_ ?_
    rotate_left
    · intro w' hh
      clear hh; go_simp
      try with_reducible rfl
    (try simp only [Act.put, List.setIfInBounds_toArray, List.set_cons_zero, List.set_cons_succ])
    refine Hp.take (i := 6) (oi := ⟨some 53, Op.load 3 (Operand.tmp 52), _, _, _, none⟩) (v := ?_) rfl (by kernel_rfl) (by kernel_rfl) (by kernel_rfl) (fun _ _ _ h => h) (by rfl) ⟨sh.facts.2.2, sh.data⟩ ?_ ?_
    rotate_left
    · intro w' hh
      have F' := hh.1; have hd := hh.2; clear hh; (try simp only [Hp.Facts, Hp.CellsAt, Nat.reduceAdd, List.cons_append, List.nil_append] at F'); skip
      go_simp
      try with_reducible rfl
    (try simp only [Act.put, List.setIfInBounds_toArray, List.set_cons_zero, List.set_cons_succ])
    refine Hp.take (i := 7) (oi := ⟨some 54, Op.convert 3 47 (Operand.tmp 53), _, _, _, none⟩) (v := ?_) rfl (by kernel_rfl) (by kernel_rfl) (by kernel_rfl) (fun _ _ _ h => h) (by rfl) ⟨sh.facts.2.2, sh.data⟩ ?_ ?_
    rotate_left
    · intro w' hh
      clear hh; go_simp
      try with_reducible rfl
    (try simp only [Act.put, List.setIfInBounds_toArray, List.set_cons_zero, List.set_cons_succ])
    refine Hp.take (i := 9) (oi := ⟨some 56, Op.move (Operand.tmp 1), _, _, _, none⟩) (v := ?_) rfl (by kernel_rfl) (by kernel_rfl) (by kernel_rfl) (fun _ _ _ h => h) (by rfl) ⟨sh.facts.2.2, sh.data⟩ ?_ ?_
    rotate_left
    · intro w' hh
      clear hh; go_simp
      try with_reducible rfl
    (try simp only [Act.put, List.setIfInBounds_toArray, List.set_cons_zero, List.set_cons_succ])
    refine Hp.take (i := 10) (oi := ⟨some 57, Op.fieldAddr 37 (Operand.tmp 5) 3, _, _, _, none⟩) (v := ?_) rfl (by kernel_rfl) (by kernel_rfl) (by kernel_rfl) (fun _ _ _ h => h) (by rfl) ⟨sh.facts.2.2, sh.data⟩ ?_ ?_
    rotate_left
    · intro w' hh
      clear hh; go_simp
      try with_reducible rfl
    (try simp only [Act.put, List.setIfInBounds_toArray, List.set_cons_zero, List.set_cons_succ])
    refine Hp.take (i := 11) (oi := ⟨some 58, Op.load 35 (Operand.tmp 57), _, _, _, none⟩) (v := ?_) rfl (by kernel_rfl) (by kernel_rfl) (by kernel_rfl) (fun _ _ _ h => h) (by rfl) ⟨sh.facts.2.2, sh.data⟩ ?_ ?_
    rotate_left
    · intro w' hh
      have F' := hh.1; have hd := hh.2; clear hh; (try simp only [Hp.Facts, Hp.CellsAt, Nat.reduceAdd, List.cons_append, List.nil_append] at F'); skip
      go_simp
      try with_reducible rfl
    (try simp only [Act.put, List.setIfInBounds_toArray, List.set_cons_zero, List.set_cons_succ])
    refine Hp.take (i := 12) (oi := ⟨some 59, Op.fieldAddr 37 (Operand.tmp 5) 1, _, _, _, none⟩) (v := ?_) rfl (by kernel_rfl) (by kernel_rfl) (by kernel_rfl) (fun _ _ _ h => h) (by rfl) ⟨sh.facts.2.2, sh.data⟩ ?_ ?_
    rotate_left
    · intro w' hh
      clear hh; go_simp
      try with_reducible rfl
    (try simp only [Act.put, List.setIfInBounds_toArray, List.set_cons_zero, List.set_cons_succ])
    refine Hp.take (i := 13) (oi := ⟨some 60, Op.load 3 (Operand.tmp 59), _, _, _, none⟩) (v := ?_) rfl (by kernel_rfl) (by kernel_rfl) (by kernel_rfl) (fun _ _ _ h => h) (by rfl) ⟨sh.facts.2.2, sh.data⟩ ?_ ?_
    rotate_left
    · intro w' hh
      have F' := hh.1; have hd := hh.2; clear hh; (try simp only [Hp.Facts, Hp.CellsAt, Nat.reduceAdd, List.cons_append, List.nil_append] at F'); skip
      go_simp
      try with_reducible rfl
    (try simp only [Act.put, List.setIfInBounds_toArray, List.set_cons_zero, List.set_cons_succ])
    refine Hp.take (i := 14) (oi := ⟨some 61, Op.fieldAddr 37 (Operand.tmp 5) 2, _, _, _, none⟩) (v := ?_) rfl (by kernel_rfl) (by kernel_rfl) (by kernel_rfl) (fun _ _ _ h => h) (by rfl) ⟨sh.facts.2.2, sh.data⟩ ?_ ?_
    rotate_left
    · intro w' hh
      clear hh; go_simp
      try with_reducible rfl
    (try simp only [Act.put, List.setIfInBounds_toArray, List.set_cons_zero, List.set_cons_succ])
    refine Hp.take (i := 15) (oi := ⟨some 62, Op.load 3 (Operand.tmp 61), _, _, _, none⟩) (v := ?_) rfl (by kernel_rfl) (by kernel_rfl) (by kernel_rfl) (fun _ _ _ h => h) (by rfl) ⟨sh.facts.2.2, sh.data⟩ ?_ ?_
    rotate_left
    · intro w' hh
      have F' := hh.1; have hd := hh.2; clear hh; (try simp only [Hp.Facts, Hp.CellsAt, Nat.reduceAdd, List.cons_append, List.nil_append] at F'); skip
      go_simp
      try with_reducible rfl
    (try simp only [Act.put, List.setIfInBounds_toArray, List.set_cons_zero, List.set_cons_succ])
    refine Hp.take (i := 16) (oi := ⟨some 63, Op.convert 3 47 (Operand.tmp 62), _, _, _, none⟩) (v := ?_) rfl (by kernel_rfl) (by kernel_rfl) (by kernel_rfl) (fun _ _ _ h => h) (by rfl) ⟨sh.facts.2.2, sh.data⟩ ?_ ?_
    rotate_left
    · intro w' hh
      clear hh; go_simp
      try with_reducible rfl
    (try simp only [Act.put, List.setIfInBounds_toArray, List.set_cons_zero, List.set_cons_succ])
    refine Hp.branch [8] (by kernel_rfl) (by simp) ?_
    refine Hp.Each.cons ?_ ?_
    · refine Hp.op_step (o := ⟨some 55, Op.call { callee := Callee.value (Operand.func 18), args := #[Operand.tmp 47, Operand.tmp 49, Operand.tmp 51, Operand.tmp 54], argTypes := #[24, 35, 3, 47] }, _, _, _, none⟩) rfl (by rfl) (fun K hK => ?_)
      go_simp
      go_fit (HA.out w0 _ _ _ sh HM.out); clear sh; (try clear F); rintro e w1 ⟨rfl, sh⟩; have F := sh.facts; (try simp only [Hp.Facts, Hp.CellsAt, Nat.reduceAdd, List.cons_append, List.nil_append] at F)
      refine hK _ _ ⟨sh.facts.2.2, sh.data⟩ ?_; clear hK K; (try simp only [Act.put, List.setIfInBounds_toArray, List.set_cons_zero, List.set_cons_succ])
      refine Hp.branch [17] (by kernel_rfl) (by simp) ?_
      refine Hp.Each.cons ?_ ?_
      · refine Hp.op_step (o := ⟨some 64, Op.call { callee := Callee.value (Operand.func 23), args := #[Operand.tmp 56, Operand.tmp 58, Operand.tmp 60, Operand.tmp 63], argTypes := #[28, 35, 3, 47] }, _, _, _, none⟩) rfl (by rfl) (fun K hK => ?_)
        go_simp
        go_fit (HB.out w0 _ _ _ (sh.perm (swap2 _ _ _)) HN.out); clear sh; (try clear F); rintro e w1 ⟨rfl, sh⟩; replace sh := sh.perm (swap2 _ _ _); have F := sh.facts; (try simp only [Hp.Facts, Hp.CellsAt, Nat.reduceAdd, List.cons_append, List.nil_append] at F)
        refine hK _ _ ⟨sh.facts.2.2, sh.data⟩ ?_; clear hK K; (try simp only [Act.put, List.setIfInBounds_toArray, List.set_cons_zero, List.set_cons_succ])
        refine Hp.take (i := 18) (oi := ⟨some 65, Op.binOp BinOp.eql 25 (Operand.tmp 55) (Operand.tmp 64) 25, _, _, _, none⟩) (v := ?_) rfl (by kernel_rfl) (by kernel_rfl) (by kernel_rfl) (fun _ _ _ h => h) (by rfl) ⟨sh.facts.2.2, sh.data⟩ ?_ ?_
        rotate_left
        · intro w' hh
          clear hh; go_simp
          try with_reducible rfl
        (try simp only [Act.put, List.setIfInBounds_toArray, List.set_cons_zero, List.set_cons_succ])
        refine Hp.take (i := 19) (oi := ⟨some 6, Op.assign (Operand.tmp 65), _, _, _, none⟩) (v := ?_) rfl (by kernel_rfl) (by kernel_rfl) (by kernel_rfl) (fun _ _ _ h => h) (by rfl) ⟨sh.facts.2.2, sh.data⟩ ?_ ?_
        rotate_left
        · intro w' hh
          clear hh; go_simp
          try with_reducible rfl
        (try simp only [Act.put, List.setIfInBounds_toArray, List.set_cons_zero, List.set_cons_succ])
        refine wpAnyH_done (by kernel_rfl) ?_ _
        go_wp2; go_ret; exact ⟨rfl, (sh.perm (rot3' _ _ _ _)).drop1⟩
      exact Hp.Each.nil
    exact Hp.Each.nil
  · have HA := Lib.hid (fun w0 W H D (sh : Hp.Sh w0 W H D) h1 h2 => (rtake bm g n ws b z r ks kn kc f ag at' nn W hn hb hz hat hnn h1 hws h2).mono fun e w' h => RegP.RowCP.sh sh h)
    have HB := Lib.hid (fun w0 W H D (sh : Hp.Sh w0 W H D) h1 h2 => (rrtake bn h n ws b z r ks kn kc f ag at' nn W hn hb hz hat hnn h1 hws h2).mono fun e w' h => RegP.RowCP.sh sh h)
    have hlen : (RegP.takeW n ws b z at' nn).length ≤ 9223372036854775807 := by unfold RegP.takeW; split <;> simp <;> omega
    rw [show RegP.stepW n ws 2 at' nn b z l = ws from rfl]
    generalize RegP.takeW n ws b z at' nn = vs at HA HB hlen
    generalize RegP.pc n b z at' nn = c at HA HB
    have HS := Lib.hid (fun s r c d W h1 h2 => sameT s r vs c d W h1 h2 hlen)
    clear hM hN hL hws hl0 hlen
    go_enter Try.func11, Try.ntmps11
    have F := sh.facts; (try simp only [Hp.Facts, Hp.CellsAt, Nat.reduceAdd, List.cons_append, List.nil_append] at F)
    have tok_bs : True := trivial
    go_wp2_with (first
        | ((have tok := tok_bs); clear tok tok_bs; (first | (with_reducible refine Hp.wpl_box sh ?_ ?_)); exact rfl; clear sh; (try clear F); go_simp; intro bs w1 sh; have F := sh.facts; (try simp only [Hp.Facts, Hp.CellsAt, Nat.reduceAdd, List.cons_append, List.nil_append] at F))
        | ((with_reducible refine Hp.wpl_box sh ?_ ?_); exact rfl; clear sh; (try clear F); go_simp; intro b w1 sh; have F := sh.facts; (try simp only [Hp.Facts, Hp.CellsAt, Nat.reduceAdd, List.cons_append, List.nil_append] at F))
        | ((with_reducible refine Hp.atl_store ?_ ?_); exact rfl; (first | refine Hp.wp_store 0 sh rfl rfl rfl rfl (by kernel_rfl) (Nat.le_of_ble_eq_true rfl) rfl ?_ | refine Hp.wp_store 1 sh rfl rfl rfl rfl (by kernel_rfl) (Nat.le_of_ble_eq_true rfl) rfl ?_ | refine Hp.wp_store 2 sh rfl rfl rfl rfl (by kernel_rfl) (Nat.le_of_ble_eq_true rfl) rfl ?_ | refine Hp.wp_store 3 sh rfl rfl rfl rfl (by kernel_rfl) (Nat.le_of_ble_eq_true rfl) rfl ?_ | refine Hp.wp_store 4 sh rfl rfl rfl rfl (by kernel_rfl) (Nat.le_of_ble_eq_true rfl) rfl ?_ | refine Hp.wp_store 5 sh rfl rfl rfl rfl (by kernel_rfl) (Nat.le_of_ble_eq_true rfl) rfl ?_ | refine Hp.wp_store 6 sh rfl rfl rfl rfl (by kernel_rfl) (Nat.le_of_ble_eq_true rfl) rfl ?_); clear sh; (try clear F); go_simp; intro w1 sh; have F := sh.facts; (try simp only [Hp.Facts, Hp.CellsAt, Nat.reduceAdd, List.cons_append, List.nil_append] at F))
        | fail)
    go_fit (HA.out w0 _ _ _ sh (HM.out _ sh.data) (RegP.own_rdv sh 1 rfl))
    clear sh; (try clear F)
    rintro e w1 ⟨s1, c1, rfl, sh⟩
    have F := sh.facts; (try simp only [Hp.Facts, Hp.CellsAt, Nat.reduceAdd, List.cons_append, List.nil_append] at F)
    go_wp2_with (first
        | ((with_reducible refine Hp.wpl_box sh ?_ ?_); exact rfl; clear sh; (try clear F); go_simp; intro b w1 sh; have F := sh.facts; (try simp only [Hp.Facts, Hp.CellsAt, Nat.reduceAdd, List.cons_append, List.nil_append] at F))
        | ((with_reducible refine Hp.atl_store ?_ ?_); exact rfl; (first | refine Hp.wp_store 0 sh rfl rfl rfl rfl (by kernel_rfl) (Nat.le_of_ble_eq_true rfl) rfl ?_ | refine Hp.wp_store 1 sh rfl rfl rfl rfl (by kernel_rfl) (Nat.le_of_ble_eq_true rfl) rfl ?_ | refine Hp.wp_store 2 sh rfl rfl rfl rfl (by kernel_rfl) (Nat.le_of_ble_eq_true rfl) rfl ?_ | refine Hp.wp_store 3 sh rfl rfl rfl rfl (by kernel_rfl) (Nat.le_of_ble_eq_true rfl) rfl ?_ | refine Hp.wp_store 4 sh rfl rfl rfl rfl (by kernel_rfl) (Nat.le_of_ble_eq_true rfl) rfl ?_ | refine Hp.wp_store 5 sh rfl rfl rfl rfl (by kernel_rfl) (Nat.le_of_ble_eq_true rfl) rfl ?_ | refine Hp.wp_store 6 sh rfl rfl rfl rfl (by kernel_rfl) (Nat.le_of_ble_eq_true rfl) rfl ?_); clear sh; (try clear F); go_simp; intro w1 sh; have F := sh.facts; (try simp only [Hp.Facts, Hp.CellsAt, Nat.reduceAdd, List.cons_append, List.nil_append] at F))
        | fail)
    go_fit (HB.out w0 _ _ _ sh (HN.out _ sh.data.2) (RegP.own_rdv sh 2 rfl))
    clear sh; (try clear F)
    rintro e w1 ⟨s2, c2, rfl, sh⟩
    have F := sh.facts; (try simp only [Hp.Facts, Hp.CellsAt, Nat.reduceAdd, List.cons_append, List.nil_append] at F)
    go_wp2_with (first
        | ((with_reducible refine Hp.wpl_box sh ?_ ?_); exact rfl; clear sh; (try clear F); go_simp; intro b w1 sh; have F := sh.facts; (try simp only [Hp.Facts, Hp.CellsAt, Nat.reduceAdd, List.cons_append, List.nil_append] at F))
        | ((with_reducible refine Hp.atl_store ?_ ?_); exact rfl; (first | refine Hp.wp_store 0 sh rfl rfl rfl rfl (by kernel_rfl) (Nat.le_of_ble_eq_true rfl) rfl ?_ | refine Hp.wp_store 1 sh rfl rfl rfl rfl (by kernel_rfl) (Nat.le_of_ble_eq_true rfl) rfl ?_ | refine Hp.wp_store 2 sh rfl rfl rfl rfl (by kernel_rfl) (Nat.le_of_ble_eq_true rfl) rfl ?_ | refine Hp.wp_store 3 sh rfl rfl rfl rfl (by kernel_rfl) (Nat.le_of_ble_eq_true rfl) rfl ?_ | refine Hp.wp_store 4 sh rfl rfl rfl rfl (by kernel_rfl) (Nat.le_of_ble_eq_true rfl) rfl ?_ | refine Hp.wp_store 5 sh rfl rfl rfl rfl (by kernel_rfl) (Nat.le_of_ble_eq_true rfl) rfl ?_ | refine Hp.wp_store 6 sh rfl rfl rfl rfl (by kernel_rfl) (Nat.le_of_ble_eq_true rfl) rfl ?_); clear sh; (try clear F); go_simp; intro w1 sh; have F := sh.facts; (try simp only [Hp.Facts, Hp.CellsAt, Nat.reduceAdd, List.cons_append, List.nil_append] at F))
        | fail)
    go_fit (HS.out s1 s2 c1 c2 _ sh.data.2.1 sh.data.1)
    rintro e w1 ⟨rfl, hb⟩
    replace sh := sh.call hb; clear hb; (try clear F); have F := sh.facts; (try simp only [Hp.Facts, Hp.CellsAt, Nat.reduceAdd, List.cons_append, List.nil_append] at F)
    go_wp2_with (first
        | ((with_reducible refine Hp.wpl_box sh ?_ ?_); exact rfl; clear sh; (try clear F); go_simp; intro b w1 sh; have F := sh.facts; (try simp only [Hp.Facts, Hp.CellsAt, Nat.reduceAdd, List.cons_append, List.nil_append] at F))
        | ((with_reducible refine Hp.atl_store ?_ ?_); exact rfl; (first | refine Hp.wp_store 0 sh rfl rfl rfl rfl (by kernel_rfl) (Nat.le_of_ble_eq_true rfl) rfl ?_ | refine Hp.wp_store 1 sh rfl rfl rfl rfl (by kernel_rfl) (Nat.le_of_ble_eq_true rfl) rfl ?_ | refine Hp.wp_store 2 sh rfl rfl rfl rfl (by kernel_rfl) (Nat.le_of_ble_eq_true rfl) rfl ?_ | refine Hp.wp_store 3 sh rfl rfl rfl rfl (by kernel_rfl) (Nat.le_of_ble_eq_true rfl) rfl ?_ | refine Hp.wp_store 4 sh rfl rfl rfl rfl (by kernel_rfl) (Nat.le_of_ble_eq_true rfl) rfl ?_ | refine Hp.wp_store 5 sh rfl rfl rfl rfl (by kernel_rfl) (Nat.le_of_ble_eq_true rfl) rfl ?_ | refine Hp.wp_store 6 sh rfl rfl rfl rfl (by kernel_rfl) (Nat.le_of_ble_eq_true rfl) rfl ?_); clear sh; (try clear F); go_simp; intro w1 sh; have F := sh.facts; (try simp only [Hp.Facts, Hp.CellsAt, Nat.reduceAdd, List.cons_append, List.nil_append] at F))
        | fail)
    go_ret
    exact ⟨rfl, sh.drop1.imp fun W h => h.2.2⟩
  · have HA := Lib.hid (fun w0 W H D sh h1 h2 => rlay bm g n ws b z r ks kn kc f ag at' ls l ln lc w0 W H D sh h1 (by omega) hws hb hz hat hl0 hln h2)
    have HB := Lib.hid (fun w0 W H D sh h1 h2 => rrlay bn h n ws b z r ks kn kc f ag at' ls l ln lc w0 W H D sh h1 (by omega) hws hn hb hz hat hl0 hln h2)
    rw [show RegP.stepW n ws 3 at' nn b z l = RegP.layW n ws b z at' l from rfl]
    generalize RegP.layW n ws b z at' l = ws' at HA HB ⊢
    generalize RegP.pc n b z at' l.length = c at HA HB
    clear hM hN hL hws hl0
    go_enter Try.func11, Try.ntmps11
    have F := sh.facts; (try simp only [Hp.Facts, Hp.CellsAt, Nat.reduceAdd, List.cons_append, List.nil_append] at F)
    have tok_bs : True := trivial
    go_wp2_with (first
        | ((have tok := tok_bs); clear tok tok_bs; (first | (with_reducible refine Hp.wpl_box sh ?_ ?_)); exact rfl; clear sh; (try clear F); go_simp; intro bs w1 sh; have F := sh.facts; (try simp only [Hp.Facts, Hp.CellsAt, Nat.reduceAdd, List.cons_append, List.nil_append] at F))
        | ((with_reducible refine Hp.wpl_box sh ?_ ?_); exact rfl; clear sh; (try clear F); go_simp; intro b w1 sh; have F := sh.facts; (try simp only [Hp.Facts, Hp.CellsAt, Nat.reduceAdd, List.cons_append, List.nil_append] at F))
        | ((with_reducible refine Hp.atl_store ?_ ?_); exact rfl; (first | refine Hp.wp_store 0 sh rfl rfl rfl rfl (by kernel_rfl) (Nat.le_of_ble_eq_true rfl) rfl ?_ | refine Hp.wp_store 1 sh rfl rfl rfl rfl (by kernel_rfl) (Nat.le_of_ble_eq_true rfl) rfl ?_ | refine Hp.wp_store 2 sh rfl rfl rfl rfl (by kernel_rfl) (Nat.le_of_ble_eq_true rfl) rfl ?_ | refine Hp.wp_store 3 sh rfl rfl rfl rfl (by kernel_rfl) (Nat.le_of_ble_eq_true rfl) rfl ?_ | refine Hp.wp_store 4 sh rfl rfl rfl rfl (by kernel_rfl) (Nat.le_of_ble_eq_true rfl) rfl ?_ | refine Hp.wp_store 5 sh rfl rfl rfl rfl (by kernel_rfl) (Nat.le_of_ble_eq_true rfl) rfl ?_ | refine Hp.wp_store 6 sh rfl rfl rfl rfl (by kernel_rfl) (Nat.le_of_ble_eq_true rfl) rfl ?_); clear sh; (try clear F); go_simp; intro w1 sh; have F := sh.facts; (try simp only [Hp.Facts, Hp.CellsAt, Nat.reduceAdd, List.cons_append, List.nil_append] at F))
        | fail)
    replace sh := sh.perm (rot3 _ _ _ _)
    refine Hp.region_sh2 (by kernel_rfl) sh ?_; clear sh F; intro w1 sh; have F := sh.facts; (try simp only [Hp.Facts, Hp.CellsAt, Nat.reduceAdd, List.cons_append, List.nil_append] at F)
    refine Hp.take (i := 0) (oi := ⟨some 100, Op.move (Operand.tmp 0), _, _, _, none⟩) (v := ?_) rfl (by kernel_rfl) (by kernel_rfl) (by kernel_rfl) (fun _ _ _ h => h) (by rfl) ⟨sh.facts.2.2, sh.data⟩ ?_ ?_
    rotate_left
    · intro w' hh
      clear hh; go_simp
      try with_reducible rfl
    (try simp only [Act.put, List.setIfInBounds_toArray, List.set_cons_zero, List.set_cons_succ])
    refine Hp.take (i := 1) (oi := ⟨some 101, Op.fieldAddr 37 (Operand.tmp 5) 3, _, _, _, none⟩) (v := ?_) rfl (by kernel_rfl) (by kernel_rfl) (by kernel_rfl) (fun _ _ _ h => h) (by rfl) ⟨sh.facts.2.2, sh.data⟩ ?_ ?_
    rotate_left
    · intro w' hh
      clear hh; go_simp
      try with_reducible rfl
    (try simp only [Act.put, List.setIfInBounds_toArray, List.set_cons_zero, List.set_cons_succ])
    refine Hp.take (i := 2) (oi := ⟨some 102, Op.load 35 (Operand.tmp 101), _, _, _, none⟩) (v := ?_) rfl (by kernel_rfl) (by kernel_rfl) (by kernel_rfl) (fun _ _ _ h => h) (by rfl) ⟨sh.facts.2.2, sh.data⟩ ?_ ?_
    rotate_left
    · intro w' hh
      have F' := hh.1; have hd := hh.2; clear hh; (try simp only [Hp.Facts, Hp.CellsAt, Nat.reduceAdd, List.cons_append, List.nil_append] at F'); skip
      go_simp
      try with_reducible rfl
    (try simp only [Act.put, List.setIfInBounds_toArray, List.set_cons_zero, List.set_cons_succ])
    refine Hp.take (i := 3) (oi := ⟨some 103, Op.fieldAddr 37 (Operand.tmp 5) 1, _, _, _, none⟩) (v := ?_) rfl (by kernel_rfl) (by kernel_rfl) (by kernel_rfl) (fun _ _ _ h => h) (by rfl) ⟨sh.facts.2.2, sh.data⟩ ?_ ?_
    rotate_left
    · intro w' hh
      clear hh; go_simp
      try with_reducible rfl
    (try simp only [Act.put, List.setIfInBounds_toArray, List.set_cons_zero, List.set_cons_succ])
    refine Hp.take (i := 4) (oi := ⟨some 104, Op.load 3 (Operand.tmp 103), _, _, _, none⟩) (v := ?_) rfl (by kernel_rfl) (by kernel_rfl) (by kernel_rfl) (fun _ _ _ h => h) (by rfl) ⟨sh.facts.2.2, sh.data⟩ ?_ ?_
    rotate_left
    · intro w' hh
      have F' := hh.1; have hd := hh.2; clear hh; (try simp only [Hp.Facts, Hp.CellsAt, Nat.reduceAdd, List.cons_append, List.nil_append] at F'); skip
      go_simp
      try with_reducible rfl
    (try simp only [Act.put, List.setIfInBounds_toArray, List.set_cons_zero, List.set_cons_succ])
    refine Hp.take (i := 5) (oi := ⟨some 105, Op.fieldAddr 37 (Operand.tmp 5) 4, _, _, _, none⟩) (v := ?_) rfl (by kernel_rfl) (by kernel_rfl) (by kernel_rfl) (fun _ _ _ h => h) (by rfl) ⟨sh.facts.2.2, sh.data⟩ ?_ ?_
    rotate_left
    · intro w' hh
      clear hh; go_simp
      try with_reducible rfl
    (try simp only [Act.put, List.setIfInBounds_toArray, List.set_cons_zero, List.set_cons_succ])
    refine Hp.take (i := 6) (oi := ⟨some 106, Op.load 33 (Operand.tmp 105), _, _, _, none⟩) (v := ?_) rfl (by kernel_rfl) (by kernel_rfl) (by kernel_rfl) (fun _ _ _ h => h) (by rfl) ⟨sh.facts.2.2, sh.data⟩ ?_ ?_
    rotate_left
    · intro w' hh
      have F' := hh.1; have hd := hh.2; clear hh; (try simp only [Hp.Facts, Hp.CellsAt, Nat.reduceAdd, List.cons_append, List.nil_append] at F'); skip
      go_simp
      try with_reducible rfl
    (try simp only [Act.put, List.setIfInBounds_toArray, List.set_cons_zero, List.set_cons_succ])
    refine Hp.take (i := 8) (oi := ⟨some 108, Op.move (Operand.tmp 1), _, _, _, none⟩) (v := ?_) rfl (by kernel_rfl) (by kernel_rfl) (by kernel_rfl) (fun _ _ _ h => h) (by rfl) ⟨sh.facts.2.2, sh.data⟩ ?_ ?_
    rotate_left
    · intro w' hh
      clear hh; go_simp
      try with_reducible rfl
    (try simp only [Act.put, List.setIfInBounds_toArray, List.set_cons_zero, List.set_cons_succ])
    refine Hp.take (i := 9) (oi := ⟨some 109, Op.fieldAddr 37 (Operand.tmp 5) 3, _, _, _, none⟩) (v := ?_) rfl (by kernel_rfl) (by kernel_rfl) (by kernel_rfl) (fun _ _ _ h => h) (by rfl) ⟨sh.facts.2.2, sh.data⟩ ?_ ?_
    rotate_left
    · intro w' hh
      clear hh; go_simp
      try with_reducible rfl
    (try simp only [Act.put, List.setIfInBounds_toArray, List.set_cons_zero, List.set_cons_succ])
    refine Hp.take (i := 10) (oi := ⟨some 110, Op.load 35 (Operand.tmp 109), _, _, _, none⟩) (v := ?_) rfl (by kernel_rfl) (by kernel_rfl) (by kernel_rfl) (fun _ _ _ h => h) (by rfl) ⟨sh.facts.2.2, sh.data⟩ ?_ ?_
    rotate_left
    · intro w' hh
      have F' := hh.1; have hd := hh.2; clear hh; (try simp only [Hp.Facts, Hp.CellsAt, Nat.reduceAdd, List.cons_append, List.nil_append] at F'); skip
      go_simp
      try with_reducible rfl
    (try simp only [Act.put, List.setIfInBounds_toArray, List.set_cons_zero, List.set_cons_succ])
    refine Hp.take (i := 11) (oi := ⟨some 111, Op.fieldAddr 37 (Operand.tmp 5) 1, _, _, _, none⟩) (v := ?_) rfl (by kernel_rfl) (by kernel_rfl) (by kernel_rfl) (fun _ _ _ h => h) (by rfl) ⟨sh.facts.2.2, sh.data⟩ ?_ ?_
    rotate_left
    · intro w' hh
      clear hh; go_simp
      try with_reducible rfl
    (try simp only [Act.put, List.setIfInBounds_toArray, List.set_cons_zero, List.set_cons_succ])
    refine Hp.take (i := 12) (oi := ⟨some 112, Op.load 3 (Operand.tmp 111), _, _, _, none⟩) (v := ?_) rfl (by kernel_rfl) (by kernel_rfl) (by kernel_rfl) (fun _ _ _ h => h) (by rfl) ⟨sh.facts.2.2, sh.data⟩ ?_ ?_
    rotate_left
    · intro w' hh
      have F' := hh.1; have hd := hh.2; clear hh; (try simp only [Hp.Facts, Hp.CellsAt, Nat.reduceAdd, List.cons_append, List.nil_append] at F'); skip
      go_simp
      try with_reducible rfl
    (try simp only [Act.put, List.setIfInBounds_toArray, List.set_cons_zero, List.set_cons_succ])
    refine Hp.take (i := 13) (oi := ⟨some 113, Op.fieldAddr 37 (Operand.tmp 5) 4, _, _, _, none⟩) (v := ?_) rfl (by kernel_rfl) (by kernel_rfl) (by kernel_rfl) (fun _ _ _ h => h) (by rfl) ⟨sh.facts.2.2, sh.data⟩ ?_ ?_
    rotate_left
    · intro w' hh
      clear hh; go_simp
      try with_reducible rfl
    (try simp only [Act.put, List.setIfInBounds_toArray, List.set_cons_zero, List.set_cons_succ])
    refine Hp.take (i := 14) (oi := ⟨some 114, Op.load 33 (Operand.tmp 113), _, _, _, none⟩) (v := ?_) rfl (by kernel_rfl) (by kernel_rfl) (by kernel_rfl) (fun _ _ _ h => h) (by rfl) ⟨sh.facts.2.2, sh.data⟩ ?_ ?_
    rotate_left
    · intro w' hh
      have F' := hh.1; have hd := hh.2; clear hh; (try simp only [Hp.Facts, Hp.CellsAt, Nat.reduceAdd, List.cons_append, List.nil_append] at F'); skip
      go_simp
      try with_reducible rfl
    (try simp only [Act.put, List.setIfInBounds_toArray, List.set_cons_zero, List.set_cons_succ])
    refine Hp.branch [7] (by kernel_rfl) (by simp) ?_
    refine Hp.Each.cons ?_ ?_
    · refine Hp.op_step (o := ⟨some 107, Op.call { callee := Callee.value (Operand.func 15), args := #[Operand.tmp 100, Operand.tmp 102, Operand.tmp 104, Operand.tmp 106], argTypes := #[24, 35, 3, 33] }, _, _, _, none⟩) rfl (by rfl) (fun K hK => ?_)
      go_simp
      go_fit (HA.out w0 _ _ _ sh HM.out HL.out); clear sh; (try clear F); rintro e w1 ⟨rfl, sh⟩; have F := sh.facts; (try simp only [Hp.Facts, Hp.CellsAt, Nat.reduceAdd, List.cons_append, List.nil_append] at F)
      refine hK _ _ ⟨sh.facts.2.2, sh.data⟩ ?_; clear hK K; (try simp only [Act.put, List.setIfInBounds_toArray, List.set_cons_zero, List.set_cons_succ])
      refine Hp.branch [15] (by kernel_rfl) (by simp) ?_
      refine Hp.Each.cons ?_ ?_
      · refine Hp.op_step (o := ⟨some 115, Op.call { callee := Callee.value (Operand.func 25), args := #[Operand.tmp 108, Operand.tmp 110, Operand.tmp 112, Operand.tmp 114], argTypes := #[28, 35, 3, 33] }, _, _, _, none⟩) rfl (by rfl) (fun K hK => ?_)
        go_simp
        go_fit (HB.out w0 _ _ _ (sh.perm (swap2 _ _ _)) HN.out HL.out); clear sh; (try clear F); rintro e w1 ⟨rfl, sh⟩; replace sh := sh.perm (swap2 _ _ _); have F := sh.facts; (try simp only [Hp.Facts, Hp.CellsAt, Nat.reduceAdd, List.cons_append, List.nil_append] at F)
        refine hK _ _ ⟨sh.facts.2.2, sh.data⟩ ?_; clear hK K; (try simp only [Act.put, List.setIfInBounds_toArray, List.set_cons_zero, List.set_cons_succ])
        refine Hp.take (i := 16) (oi := ⟨some 116, Op.binOp BinOp.eql 25 (Operand.tmp 107) (Operand.tmp 115) 25, _, _, _, none⟩) (v := ?_) rfl (by kernel_rfl) (by kernel_rfl) (by kernel_rfl) (fun _ _ _ h => h) (by rfl) ⟨sh.facts.2.2, sh.data⟩ ?_ ?_
        rotate_left
        · intro w' hh
          clear hh; go_simp
          try with_reducible rfl
        (try simp only [Act.put, List.setIfInBounds_toArray, List.set_cons_zero, List.set_cons_succ])
        refine Hp.take (i := 17) (oi := ⟨some 6, Op.assign (Operand.tmp 116), _, _, _, none⟩) (v := ?_) rfl (by kernel_rfl) (by kernel_rfl) (by kernel_rfl) (fun _ _ _ h => h) (by rfl) ⟨sh.facts.2.2, sh.data⟩ ?_ ?_
        rotate_left
        · intro w' hh
          clear hh; go_simp
          try with_reducible rfl
        (try simp only [Act.put, List.setIfInBounds_toArray, List.set_cons_zero, List.set_cons_succ])
        refine wpAnyH_done (by kernel_rfl) ?_ _
        go_wp2; go_ret; exact ⟨rfl, (sh.perm (rot3' _ _ _ _)).drop1⟩
      exact Hp.Each.nil
    exact Hp.Each.nil
  · have HA := Lib.hid (fun w0 W H D sh h1 => rclear bm g n ws b z r ks kn kc f ag w0 W H D sh h1 (by omega) hws hb hz)
    have HB := Lib.hid (fun w0 W H D sh h1 => rrclear bn h n ws b z r ks kn kc f ag w0 W H D sh h1 (by omega) hws hb hz)
    rw [show RegP.stepW n ws 4 at' nn b z l = RegP.clearW n ws b z from rfl]
    generalize RegP.clearW n ws b z = ws' at HA HB ⊢
    generalize RegP.occ n b z = c at HA HB
    clear hM hN hL hws hl0
    go_enter Try.func11, Try.ntmps11
    have F := sh.facts; (try simp only [Hp.Facts, Hp.CellsAt, Nat.reduceAdd, List.cons_append, List.nil_append] at F)
    have tok_bs : True := trivial
    go_wp2_with (first
        | ((have tok := tok_bs); clear tok tok_bs; (first | (with_reducible refine Hp.wpl_box sh ?_ ?_)); exact rfl; clear sh; (try clear F); go_simp; intro bs w1 sh; have F := sh.facts; (try simp only [Hp.Facts, Hp.CellsAt, Nat.reduceAdd, List.cons_append, List.nil_append] at F))
        | ((with_reducible refine Hp.wpl_box sh ?_ ?_); exact rfl; clear sh; (try clear F); go_simp; intro b w1 sh; have F := sh.facts; (try simp only [Hp.Facts, Hp.CellsAt, Nat.reduceAdd, List.cons_append, List.nil_append] at F))
        | ((with_reducible refine Hp.atl_store ?_ ?_); exact rfl; (first | refine Hp.wp_store 0 sh rfl rfl rfl rfl (by kernel_rfl) (Nat.le_of_ble_eq_true rfl) rfl ?_ | refine Hp.wp_store 1 sh rfl rfl rfl rfl (by kernel_rfl) (Nat.le_of_ble_eq_true rfl) rfl ?_ | refine Hp.wp_store 2 sh rfl rfl rfl rfl (by kernel_rfl) (Nat.le_of_ble_eq_true rfl) rfl ?_ | refine Hp.wp_store 3 sh rfl rfl rfl rfl (by kernel_rfl) (Nat.le_of_ble_eq_true rfl) rfl ?_ | refine Hp.wp_store 4 sh rfl rfl rfl rfl (by kernel_rfl) (Nat.le_of_ble_eq_true rfl) rfl ?_ | refine Hp.wp_store 5 sh rfl rfl rfl rfl (by kernel_rfl) (Nat.le_of_ble_eq_true rfl) rfl ?_ | refine Hp.wp_store 6 sh rfl rfl rfl rfl (by kernel_rfl) (Nat.le_of_ble_eq_true rfl) rfl ?_); clear sh; (try clear F); go_simp; intro w1 sh; have F := sh.facts; (try simp only [Hp.Facts, Hp.CellsAt, Nat.reduceAdd, List.cons_append, List.nil_append] at F))
        | fail)
    replace sh := sh.perm (rot3 _ _ _ _)
    refine Hp.region_sh2 (by kernel_rfl) sh ?_; clear sh F; intro w1 sh; have F := sh.facts; (try simp only [Hp.Facts, Hp.CellsAt, Nat.reduceAdd, List.cons_append, List.nil_append] at F)
    refine Hp.take (i := 0) (oi := ⟨some 119, Op.move (Operand.tmp 0), _, _, _, none⟩) (v := ?_) rfl (by kernel_rfl) (by kernel_rfl) (by kernel_rfl) (fun _ _ _ h => h) (by rfl) ⟨sh.facts.2.2, sh.data⟩ ?_ ?_
    rotate_left
    · intro w' hh
      clear hh; go_simp
      try with_reducible rfl
    (try simp only [Act.put, List.setIfInBounds_toArray, List.set_cons_zero, List.set_cons_succ])
    refine Hp.take (i := 1) (oi := ⟨some 120, Op.fieldAddr 37 (Operand.tmp 5) 3, _, _, _, none⟩) (v := ?_) rfl (by kernel_rfl) (by kernel_rfl) (by kernel_rfl) (fun _ _ _ h => h) (by rfl) ⟨sh.facts.2.2, sh.data⟩ ?_ ?_
    rotate_left
    · intro w' hh
      clear hh; go_simp
      try with_reducible rfl
    (try simp only [Act.put, List.setIfInBounds_toArray, List.set_cons_zero, List.set_cons_succ])
    refine Hp.take (i := 2) (oi := ⟨some 121, Op.load 35 (Operand.tmp 120), _, _, _, none⟩) (v := ?_) rfl (by kernel_rfl) (by kernel_rfl) (by kernel_rfl) (fun _ _ _ h => h) (by rfl) ⟨sh.facts.2.2, sh.data⟩ ?_ ?_
    rotate_left
    · intro w' hh
      have F' := hh.1; have hd := hh.2; clear hh; (try simp only [Hp.Facts, Hp.CellsAt, Nat.reduceAdd, List.cons_append, List.nil_append] at F'); skip
      go_simp
      try with_reducible rfl
    (try simp only [Act.put, List.setIfInBounds_toArray, List.set_cons_zero, List.set_cons_succ])
    refine Hp.take (i := 4) (oi := ⟨some 123, Op.move (Operand.tmp 1), _, _, _, none⟩) (v := ?_) rfl (by kernel_rfl) (by kernel_rfl) (by kernel_rfl) (fun _ _ _ h => h) (by rfl) ⟨sh.facts.2.2, sh.data⟩ ?_ ?_
    rotate_left
    · intro w' hh
      clear hh; go_simp
      try with_reducible rfl
    (try simp only [Act.put, List.setIfInBounds_toArray, List.set_cons_zero, List.set_cons_succ])
    refine Hp.take (i := 5) (oi := ⟨some 124, Op.fieldAddr 37 (Operand.tmp 5) 3, _, _, _, none⟩) (v := ?_) rfl (by kernel_rfl) (by kernel_rfl) (by kernel_rfl) (fun _ _ _ h => h) (by rfl) ⟨sh.facts.2.2, sh.data⟩ ?_ ?_
    rotate_left
    · intro w' hh
      clear hh; go_simp
      try with_reducible rfl
    (try simp only [Act.put, List.setIfInBounds_toArray, List.set_cons_zero, List.set_cons_succ])
    refine Hp.take (i := 6) (oi := ⟨some 125, Op.load 35 (Operand.tmp 124), _, _, _, none⟩) (v := ?_) rfl (by kernel_rfl) (by kernel_rfl) (by kernel_rfl) (fun _ _ _ h => h) (by rfl) ⟨sh.facts.2.2, sh.data⟩ ?_ ?_
    rotate_left
    · intro w' hh
      have F' := hh.1; have hd := hh.2; clear hh; (try simp only [Hp.Facts, Hp.CellsAt, Nat.reduceAdd, List.cons_append, List.nil_append] at F'); skip
      go_simp
      try with_reducible rfl
    (try simp only [Act.put, List.setIfInBounds_toArray, List.set_cons_zero, List.set_cons_succ])
    refine Hp.branch [3] (by kernel_rfl) (by simp) ?_
    refine Hp.Each.cons ?_ ?_
    · refine Hp.op_step (o := ⟨some 122, Op.call { callee := Callee.value (Operand.func 21), args := #[Operand.tmp 119, Operand.tmp 121], argTypes := #[24, 35] }, _, _, _, none⟩) rfl (by rfl) (fun K hK => ?_)
      go_simp
      go_fit (HA.out w0 _ _ _ sh HM.out); clear sh; (try clear F); rintro e w1 ⟨rfl, sh⟩; have F := sh.facts; (try simp only [Hp.Facts, Hp.CellsAt, Nat.reduceAdd, List.cons_append, List.nil_append] at F)
      refine hK _ _ ⟨sh.facts.2.2, sh.data⟩ ?_; clear hK K; (try simp only [Act.put, List.setIfInBounds_toArray, List.set_cons_zero, List.set_cons_succ])
      refine Hp.branch [7] (by kernel_rfl) (by simp) ?_
      refine Hp.Each.cons ?_ ?_
      · refine Hp.op_step (o := ⟨some 126, Op.call { callee := Callee.value (Operand.func 26), args := #[Operand.tmp 123, Operand.tmp 125], argTypes := #[28, 35] }, _, _, _, none⟩) rfl (by rfl) (fun K hK => ?_)
        go_simp
        go_fit (HB.out w0 _ _ _ (sh.perm (swap2 _ _ _)) HN.out); clear sh; (try clear F); rintro e w1 ⟨rfl, sh⟩; replace sh := sh.perm (swap2 _ _ _); have F := sh.facts; (try simp only [Hp.Facts, Hp.CellsAt, Nat.reduceAdd, List.cons_append, List.nil_append] at F)
        refine hK _ _ ⟨sh.facts.2.2, sh.data⟩ ?_; clear hK K; (try simp only [Act.put, List.setIfInBounds_toArray, List.set_cons_zero, List.set_cons_succ])
        refine Hp.take (i := 8) (oi := ⟨some 127, Op.binOp BinOp.eql 25 (Operand.tmp 122) (Operand.tmp 126) 25, _, _, _, none⟩) (v := ?_) rfl (by kernel_rfl) (by kernel_rfl) (by kernel_rfl) (fun _ _ _ h => h) (by rfl) ⟨sh.facts.2.2, sh.data⟩ ?_ ?_
        rotate_left
        · intro w' hh
          clear hh; go_simp
          try with_reducible rfl
        (try simp only [Act.put, List.setIfInBounds_toArray, List.set_cons_zero, List.set_cons_succ])
        refine Hp.take (i := 9) (oi := ⟨some 6, Op.assign (Operand.tmp 127), _, _, _, none⟩) (v := ?_) rfl (by kernel_rfl) (by kernel_rfl) (by kernel_rfl) (fun _ _ _ h => h) (by rfl) ⟨sh.facts.2.2, sh.data⟩ ?_ ?_
        rotate_left
        · intro w' hh
          clear hh; go_simp
          try with_reducible rfl
        (try simp only [Act.put, List.setIfInBounds_toArray, List.set_cons_zero, List.set_cons_succ])
        refine wpAnyH_done (by kernel_rfl) ?_ _
        go_wp2; go_ret; exact ⟨rfl, (sh.perm (rot3' _ _ _ _)).drop1⟩
      exact Hp.Each.nil
    exact Hp.Each.nil
  · have HA := Lib.hid (fun w0 W H D (sh : Hp.Sh w0 W H D) h1 h2 => (rview bm g n ws b z r ks kn kc f ag W hn hb hz h1 hws h2).mono fun e w' h => RegP.RowP.sh sh h)
    have HB := Lib.hid (fun w0 W H D (sh : Hp.Sh w0 W H D) h1 h2 => (rrview bn h n ws b z r ks kn kc f ag W hn hb hz h1 hws h2).mono fun e w' h => RegP.RowP.sh sh h)
    have hlen : (RegP.viewW n ws b z).length ≤ 9223372036854775807 := by unfold RegP.viewW; split <;> simp <;> omega
    rw [show RegP.stepW n ws kd at' nn b z l = ws by unfold RegP.stepW; rw [if_neg c1, if_neg c3, if_neg c4]]
    generalize RegP.viewW n ws b z = vs at HA HB hlen
    have HS := Lib.hid (fun s r c d W h1 h2 => sameT s r vs c d W h1 h2 hlen)
    have d0 : (kd == 0) = false := by simpa using c0
    have d1 : (kd == 1) = false := by simpa using c1
    have d2 : (kd == 2) = false := by simpa using c2
    have d3 : (kd == 3) = false := by simpa using c3
    have d4 : (kd == 4) = false := by simpa using c4
    clear hM hN hL hws hl0 hlen c0 c1 c2 c3 c4
    go_enter Try.func11, Try.ntmps11
    have F := sh.facts; (try simp only [Hp.Facts, Hp.CellsAt, Nat.reduceAdd, List.cons_append, List.nil_append] at F)
    have tok_bs : True := trivial
    go_wp2_with (first
        | ((have tok := tok_bs); clear tok tok_bs; (first | (with_reducible refine Hp.wpl_box sh ?_ ?_)); exact rfl; clear sh; (try clear F); go_simp; intro bs w1 sh; have F := sh.facts; (try simp only [Hp.Facts, Hp.CellsAt, Nat.reduceAdd, List.cons_append, List.nil_append] at F))
        | ((with_reducible refine Hp.wpl_box sh ?_ ?_); exact rfl; clear sh; (try clear F); go_simp; intro b w1 sh; have F := sh.facts; (try simp only [Hp.Facts, Hp.CellsAt, Nat.reduceAdd, List.cons_append, List.nil_append] at F))
        | ((with_reducible refine Hp.atl_store ?_ ?_); exact rfl; (first | refine Hp.wp_store 0 sh rfl rfl rfl rfl (by kernel_rfl) (Nat.le_of_ble_eq_true rfl) rfl ?_ | refine Hp.wp_store 1 sh rfl rfl rfl rfl (by kernel_rfl) (Nat.le_of_ble_eq_true rfl) rfl ?_ | refine Hp.wp_store 2 sh rfl rfl rfl rfl (by kernel_rfl) (Nat.le_of_ble_eq_true rfl) rfl ?_ | refine Hp.wp_store 3 sh rfl rfl rfl rfl (by kernel_rfl) (Nat.le_of_ble_eq_true rfl) rfl ?_ | refine Hp.wp_store 4 sh rfl rfl rfl rfl (by kernel_rfl) (Nat.le_of_ble_eq_true rfl) rfl ?_ | refine Hp.wp_store 5 sh rfl rfl rfl rfl (by kernel_rfl) (Nat.le_of_ble_eq_true rfl) rfl ?_ | refine Hp.wp_store 6 sh rfl rfl rfl rfl (by kernel_rfl) (Nat.le_of_ble_eq_true rfl) rfl ?_); clear sh; (try clear F); go_simp; intro w1 sh; have F := sh.facts; (try simp only [Hp.Facts, Hp.CellsAt, Nat.reduceAdd, List.cons_append, List.nil_append] at F))
        | fail)
    replace sh := sh.perm (rot3 _ _ _ _)
    refine Hp.region_sh2 (by kernel_rfl) sh ?_; clear sh F; intro w1 sh; have F := sh.facts; (try simp only [Hp.Facts, Hp.CellsAt, Nat.reduceAdd, List.cons_append, List.nil_append] at F)
    refine Hp.take (i := 0) (oi := ⟨some 128, Op.move (Operand.tmp 0), _, _, _, none⟩) (v := ?_) rfl (by kernel_rfl) (by kernel_rfl) (by kernel_rfl) (fun _ _ _ h => h) (by rfl) ⟨sh.facts.2.2, sh.data⟩ ?_ ?_
    rotate_left
    · intro w' hh
      clear hh; go_simp
      try with_reducible rfl
    (try simp only [Act.put, List.setIfInBounds_toArray, List.set_cons_zero, List.set_cons_succ])
    refine Hp.take (i := 1) (oi := ⟨some 129, Op.fieldAddr 37 (Operand.tmp 5) 3, _, _, _, none⟩) (v := ?_) rfl (by kernel_rfl) (by kernel_rfl) (by kernel_rfl) (fun _ _ _ h => h) (by rfl) ⟨sh.facts.2.2, sh.data⟩ ?_ ?_
    rotate_left
    · intro w' hh
      clear hh; go_simp
      try with_reducible rfl
    (try simp only [Act.put, List.setIfInBounds_toArray, List.set_cons_zero, List.set_cons_succ])
    refine Hp.take (i := 2) (oi := ⟨some 130, Op.load 35 (Operand.tmp 129), _, _, _, none⟩) (v := ?_) rfl (by kernel_rfl) (by kernel_rfl) (by kernel_rfl) (fun _ _ _ h => h) (by rfl) ⟨sh.facts.2.2, sh.data⟩ ?_ ?_
    rotate_left
    · intro w' hh
      have F' := hh.1; have hd := hh.2; clear hh; (try simp only [Hp.Facts, Hp.CellsAt, Nat.reduceAdd, List.cons_append, List.nil_append] at F'); skip
      go_simp
      try with_reducible rfl
    (try simp only [Act.put, List.setIfInBounds_toArray, List.set_cons_zero, List.set_cons_succ])
    refine Hp.take (i := 4) (oi := ⟨some 132, Op.move (Operand.tmp 1), _, _, _, none⟩) (v := ?_) rfl (by kernel_rfl) (by kernel_rfl) (by kernel_rfl) (fun _ _ _ h => h) (by rfl) ⟨sh.facts.2.2, sh.data⟩ ?_ ?_
    rotate_left
    · intro w' hh
      clear hh; go_simp
      try with_reducible rfl
    (try simp only [Act.put, List.setIfInBounds_toArray, List.set_cons_zero, List.set_cons_succ])
    refine Hp.take (i := 5) (oi := ⟨some 133, Op.fieldAddr 37 (Operand.tmp 5) 3, _, _, _, none⟩) (v := ?_) rfl (by kernel_rfl) (by kernel_rfl) (by kernel_rfl) (fun _ _ _ h => h) (by rfl) ⟨sh.facts.2.2, sh.data⟩ ?_ ?_
    rotate_left
    · intro w' hh
      clear hh; go_simp
      try with_reducible rfl
    (try simp only [Act.put, List.setIfInBounds_toArray, List.set_cons_zero, List.set_cons_succ])
    refine Hp.take (i := 6) (oi := ⟨some 134, Op.load 35 (Operand.tmp 133), _, _, _, none⟩) (v := ?_) rfl (by kernel_rfl) (by kernel_rfl) (by kernel_rfl) (fun _ _ _ h => h) (by rfl) ⟨sh.facts.2.2, sh.data⟩ ?_ ?_
    rotate_left
    · intro w' hh
      have F' := hh.1; have hd := hh.2; clear hh; (try simp only [Hp.Facts, Hp.CellsAt, Nat.reduceAdd, List.cons_append, List.nil_append] at F'); skip
      go_simp
      try with_reducible rfl
    (try simp only [Act.put, List.setIfInBounds_toArray, List.set_cons_zero, List.set_cons_succ])
    refine Hp.branch [3] (by kernel_rfl) (by simp) ?_
    refine Hp.Each.cons ?_ ?_
    · refine Hp.op_step (o := ⟨some 131, Op.call { callee := Callee.value (Operand.func 14), args := #[Operand.tmp 128, Operand.tmp 130], argTypes := #[24, 35] }, _, _, _, none⟩) rfl (by rfl) (fun K hK => ?_)
      go_simp
      go_fit (HA.out w0 _ _ _ sh (HM.out _ (by first | exact sh.data | exact sh.data.2)) (RegP.own_rdv sh 0 rfl)); clear sh; (try clear F); rintro e w1 ⟨s1, c1, rfl, sh⟩; have F := sh.facts; (try simp only [Hp.Facts, Hp.CellsAt, Nat.reduceAdd, List.cons_append, List.nil_append] at F)
      refine hK _ _ ⟨sh.facts.2.2, sh.data.2⟩ ?_; clear hK K; (try simp only [Act.put, List.setIfInBounds_toArray, List.set_cons_zero, List.set_cons_succ])
      refine Hp.branch [7] (by kernel_rfl) (by simp) ?_
      refine Hp.Each.cons ?_ ?_
      · refine Hp.op_step (o := ⟨some 135, Op.call { callee := Callee.value (Operand.func 27), args := #[Operand.tmp 132, Operand.tmp 134], argTypes := #[28, 35] }, _, _, _, none⟩) rfl (by rfl) (fun K hK => ?_)
        go_simp
        go_fit (HB.out w0 _ _ _ sh (HN.out _ (by first | exact sh.data | exact sh.data.2)) (RegP.own_rdv sh 1 rfl)); clear sh; (try clear F); rintro e w1 ⟨s2, c2, rfl, sh⟩; have F := sh.facts; (try simp only [Hp.Facts, Hp.CellsAt, Nat.reduceAdd, List.cons_append, List.nil_append] at F)
        refine hK _ _ ⟨sh.facts.2.2, sh.data.2.2⟩ ?_; clear hK K; (try simp only [Act.put, List.setIfInBounds_toArray, List.set_cons_zero, List.set_cons_succ])
        refine Hp.branch [8] (by kernel_rfl) (by simp) ?_
        refine Hp.Each.cons ?_ ?_
        · refine Hp.op_step (o := ⟨some 136, Op.call { callee := Callee.value (Operand.func 13), args := #[Operand.tmp 131, Operand.tmp 135], argTypes := #[33, 33] }, _, _, _, none⟩) rfl (by rfl) (fun K hK => ?_)
          go_simp
          (first | go_fit (HS.out s1 s2 c1 c2 _ sh.data.2.1 sh.data.1) | go_fit (HS.out s1 s2 c1 c2 _ sh.data.1 sh.data.2.1)); rintro e w1 ⟨rfl, hb⟩; replace sh := sh.call hb; clear hb F; have F := sh.facts
          refine hK _ _ ⟨sh.facts.2.2, sh.data.2.2⟩ ?_; clear hK K; (try simp only [Act.put, List.setIfInBounds_toArray, List.set_cons_zero, List.set_cons_succ])
          refine Hp.take (i := 9) (oi := ⟨some 6, Op.assign (Operand.tmp 136), _, _, _, none⟩) (v := ?_) rfl (by kernel_rfl) (by kernel_rfl) (by kernel_rfl) (fun _ _ _ h => h) (by rfl) ⟨sh.facts.2.2, sh.data.2.2⟩ ?_ ?_
          rotate_left
          · intro w' hh
            clear hh; go_simp
            try with_reducible rfl
          (try simp only [Act.put, List.setIfInBounds_toArray, List.set_cons_zero, List.set_cons_succ])
          refine wpAnyH_done (by kernel_rfl) ?_ _
          go_wp2; go_ret; exact ⟨rfl, (sh.perm (rot3' _ _ _ _)).drop1.imp fun W h => h.2.2⟩
        exact Hp.Each.nil
      exact Hp.Each.nil
    exact Hp.Each.nil

end Go.Proofs.Ytkloejfbepkniaa
