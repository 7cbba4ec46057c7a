
/-
  The walk of Get.
-/
import Derived.Test.YtfcffglgkblidaaDoorEv4
namespace Go.Proofs.YtfcffglgkblidaaDoor
open Go.RowKit
set_option linter.unusedVariables false
set_option linter.unusedSimpArgs false

namespace EvP
def evV (x : Ev) : Value := .agg #[.int .u64 x.1, .int .i64 x.2.1, .int .i64 x.2.2.1, .int .i64 x.2.2.2.1, .int .i64 x.2.2.2.2.1, .int .i64 x.2.2.2.2.2]
def getV (l : List UInt8) : Value := .tuple #[evV (getE l).1, .int .i64 (getE l).2]
theorem getV_cons (c : UInt8) (l : List UInt8) : getV (c :: l) = .tuple #[evV (fin c l).1, .int .i64 (fin c l).2] := rfl
theorem fin_err {c : UInt8} {l : List UInt8} {e : Int} (h : (st l 5).2.2 = e) (he : e ≠ 0) : fin c l = (zero, e) := by unfold fin; rw [if_pos (by rw [h]; exact he), h]
theorem fin_no {c : UInt8} {l : List UInt8} (h : (st l 5).2.2 = 0) (hn : ¬ ((st l 5).2.1 = [] ∧ fitsB l = true ∧ isB (ev c l) = true)) : fin c l = (zero, 3) := by unfold fin; rw [if_neg (by rw [h]; simp), if_neg hn]
theorem fin_yes {c : UInt8} {l : List UInt8} (h : (st l 5).2.2 = 0) (hn : (st l 5).2.1 = [] ∧ fitsB l = true ∧ isB (ev c l) = true) : fin c l = (ev c l, 0) := by unfold fin; rw [if_neg (by rw [h]; simp), if_pos hn]
theorem fits_eq (l : List UInt8) : ((((true && decide (nth l 2 ≤ 1099511627776)) && decide (nth l 3 ≤ 1099511627776)) && decide (nth l 4 ≤ 1099511627776)) && decide (nth l 5 ≤ 1099511627776)) = fitsB l := by
  unfold fitsB
  rw [Bool.eq_iff_iff]
  simp only [Bool.and_eq_true, decide_eq_true_eq, true_and, and_assoc]
theorem fits_eq2 (l : List UInt8) : (((decide (nth l 2 ≤ 1099511627776) && decide (nth l 3 ≤ 1099511627776)) && decide (nth l 4 ≤ 1099511627776)) && decide (nth l 5 ≤ 1099511627776)) = fitsB l := by rw [← fits_eq]; rfl
theorem bnd_ge (n : Nat) : 0 ≤ bnd n ∧ bnd n ≤ 1099511627776 := by unfold bnd; split <;> omega
theorem ret_get {l : List UInt8} {v : Value} {e : Int} (h : getV l = .tuple #[v, .int .i64 e]) : Ending.returned (.tuple #[v, .int .i64 e]) = .returned (getV l) := by rw [h]
end EvP

theorem Tryd.z_ev (W : World) : (zeroValue 47).run Tryd.prog W = .ok (.agg #[.int .u64 0, .int .i64 0, .int .i64 0, .int .i64 0, .int .i64 0, .int .i64 0]) W := by kernel_rfl
theorem Tryd.z_str (W : World) : (zeroValue 9).run Tryd.prog W = .ok (.string ⟨#[]⟩) W := by kernel_rfl
theorem Tryd.z_errno (W : World) : (zeroValue 28).run Tryd.prog W = .ok (.int .i64 0) W := by kernel_rfl
theorem Tryd.z_bool (W : World) : (zeroValue 4).run Tryd.prog W = .ok (.bool false) W := by kernel_rfl
theorem Tryd.z_take (W : World) : (zeroValue 95).run Tryd.prog W = .ok .nilFunc W := by kernel_rfl
set_option maxHeartbeats 4000000 in set_option maxRecDepth 100000 in
theorem eget_nil (w : World) : Calls Tryd.prog 83 #[.string (bstr [])] w fun e w' => e = .returned (EvP.getV []) ∧ Below w.heap.size w w' := by
  have sh : Hp.Sh w w [] (fun _ => True) := Hp.Sh.start (fun _ _ => trivial)
  have n1 : ((bstr []).toList == []) = true := by rw [bstr_toList]; rfl
  go_enter Tryd.func83, Tryd.ntmps83
  have F := sh.fx
  have tok_b2 : True := trivial
  go_wp2_with (first
      | ((with_reducible first | refine Hp.wpl_box sh ?_ ?_ | refine Hp.wpa sh ?_ ?_ | refine Hp.atl_store ?_ ?_); exact rfl; (try (refine Hp.wsB sh ?_)); clear sh; (try clear F); go_simp; (first | (have tok := tok_b2; clear tok tok_b2; intro b2 w1 sh) | intro b w1 sh | intro w1 sh); have F := sh.fx)
      | fail)
  all_goals first
    | exact bodyPost_ret (Hp.res_ct rfl rfl (sh.load 0 rfl (by kernel_rfl) (by kernel_rfl))) rfl ⟨rfl, sh.below⟩
    | skip

set_option maxHeartbeats 4000000 in set_option maxRecDepth 100000 in
theorem etk (l : List UInt8) (hl : l.length ≤ 40000) (k : Nat) (bf br : Nat) {w0 w : World} {H : List Hp.Blk} {D : World → Prop} (sh : Hp.Sh w0 w ((bf, #[.int .i64 (EvP.st l k).2.2], 28) :: (br, #[.string (bstr (EvP.st l k).2.1)], 9) :: H) D) :
    Calls Tryd.prog 89 #[.pointer (some ⟨bf, 0, none⟩), .pointer (some ⟨br, 0, none⟩)] w fun e w' => EvP.TakeP bf br (EvP.nth l (k + 1)) (EvP.st l (k + 1)).2 w0 H D e w' := etake bf br (EvP.st l k).2 (Nat.le_trans (EvP.st_len l k) hl) sh
set_option maxHeartbeats 4000000 in set_option maxRecDepth 100000 in
theorem ebk (l : List UInt8) (hl : l.length ≤ 40000) (k : Nat) (bq bf br bt : Nat) (g : Bool) {w0 w : World} (X : Hp.Blk) {H : List Hp.Blk} {D : World → Prop} (sh : Hp.Sh w0 w ((bq, #[.bool g], 4) :: (bf, #[.int .i64 (EvP.st l k).2.2], 28) :: (br, #[.string (bstr (EvP.st l k).2.1)], 9) :: X :: (bt, #[.func (.func 89) #[] #[.pointer (some ⟨bf, 0, none⟩), .pointer (some ⟨br, 0, none⟩)]], 95) :: H) D) :
    Calls Tryd.prog 90 #[.pointer (some ⟨bt, 0, none⟩), .pointer (some ⟨bq, 0, none⟩)] w fun e w' => EvP.BndP bq bf br bt g (EvP.nth l (k + 1)) (EvP.st l (k + 1)).2 w0 X H D e w' := ebnd bq bf br bt g (EvP.st l k).2 (Nat.le_trans (EvP.st_len l k) hl) X sh

set_option maxHeartbeats 4000000 in set_option maxRecDepth 100000 in
theorem eget_cons (c : UInt8) (l : List UInt8) (hl : l.length ≤ 40000) (w : World) : Calls Tryd.prog 83 #[.string (bstr (c :: l))] w fun e w' => e = .returned (EvP.getV (c :: l)) ∧ Below w.heap.size w w' := by
  have hmf : ∀ (fn : Fn) (first cap : Array Value) (w : World), (Instr.makeFunc fn first cap).run Tryd.prog w = .ok (.func fn first cap) w := fun _ _ _ _ => rfl
  have sh : Hp.Sh w w [] (fun _ => True) := Hp.Sh.start (fun _ _ => trivial)
  have n1 : ((bstr (c :: l)).toList == []) = false := by rw [bstr_toList]; rfl
  have n2 : (bstr (c :: l)).size = l.length + 1 := by rw [bstr_size]; rfl
  have n3 : (bstr (c :: l)).extract 1 (l.length + 1) = bstr l := by
    rw [bstr_extract, bstr_data]; simp
  have n4 : (bstr (c :: l))[0]'(by omega) = c := rfl
  have hst : ∀ k, (EvP.st l k).2.1.length ≤ 40000 := fun k => Nat.le_trans (EvP.st_len l k) hl
  have hc := c.toNat_lt
  have k2 := EvP.bnd_ge (EvP.nth l 2)
  have k3 := EvP.bnd_ge (EvP.nth l 3)
  have k4 := EvP.bnd_ge (EvP.nth l 4)
  have k5 := EvP.bnd_ge (EvP.nth l 5)
  go_enter Tryd.func83, Tryd.ntmps83
  have F := sh.fx
  have tok_b2 : True := trivial
  have tok_b4 : True := trivial
  have tok_b5 : True := trivial
  have tok_b6 : True := trivial
  have tok_b7 : True := trivial
  have tok_b9 : True := trivial
  go_wp2_with (first
      | ((with_reducible first | refine Hp.wpl_box sh ?_ ?_ | refine Hp.wpa sh ?_ ?_ | refine Hp.atl_store ?_ ?_); exact rfl; (try (refine Hp.wsB sh ?_)); clear sh; (try clear F); go_simp; (first | (have tok := tok_b2; clear tok tok_b2; intro b2 w1 sh) | (have tok := tok_b4; clear tok tok_b4; intro b4 w1 sh) | (have tok := tok_b5; clear tok tok_b5; intro b5 w1 sh) | (have tok := tok_b6; clear tok tok_b6; intro b6 w1 sh) | (have tok := tok_b7; clear tok tok_b7; intro b7 w1 sh) | (have tok := tok_b9; clear tok tok_b9; intro b9 w1 sh) | intro b w1 sh | intro w1 sh); have F := sh.fx)
      | fail)
  go_fit (etk l hl 0 b5 b4 (sh.perm ((List.perm_append_comm (l₁:=[_, _, _]) (l₂:=[_, _])).append_right [_])))
  clear sh; (try clear F)
  rintro e w1 ⟨rfl, sh⟩
  have F := sh.fx
  go_wp2_with (first
      | ((with_reducible first | refine Hp.wpl_box sh ?_ ?_ | refine Hp.wpa sh ?_ ?_ | refine Hp.atl_store ?_ ?_); exact rfl; (try (refine Hp.wsB sh ?_)); clear sh; (try clear F); go_simp; (first | intro b w1 sh | intro w1 sh); have F := sh.fx)
      | fail)
  replace sh := sh.perm ((List.perm_append_comm (l₁ := [_, _, _, _]) (l₂ := [_])).append_right [_])
  have F := sh.fx
  go_wp2_with (first
      | ((with_reducible first | refine Hp.wpl_box sh ?_ ?_ | refine Hp.wpa sh ?_ ?_ | refine Hp.atl_store ?_ ?_); exact rfl; (try (refine Hp.wsB sh ?_)); clear sh; (try clear F); go_simp; (first | intro b w1 sh | intro w1 sh); have F := sh.fx)
      | fail)
  go_fit (ebk l hl 1 b6 b5 b4 b7 true _ sh)
  clear sh; (try clear F)
  rintro e w1 ⟨rfl, sh⟩
  have F := sh.fx
  go_wp2_with (first
      | ((with_reducible first | refine Hp.wpl_box sh ?_ ?_ | refine Hp.wpa sh ?_ ?_ | refine Hp.atl_store ?_ ?_); exact rfl; (try (refine Hp.wsB sh ?_)); clear sh; (try clear F); go_simp; (first | intro b w1 sh | intro w1 sh); have F := sh.fx)
      | fail)
  go_fit (ebk l hl 2 b6 b5 b4 b7 _ _ sh)
  clear sh; (try clear F)
  rintro e w1 ⟨rfl, sh⟩
  have F := sh.fx
  go_wp2_with (first
      | ((with_reducible first | refine Hp.wpl_box sh ?_ ?_ | refine Hp.wpa sh ?_ ?_ | refine Hp.atl_store ?_ ?_); exact rfl; (try (refine Hp.wsB sh ?_)); clear sh; (try clear F); go_simp; (first | intro b w1 sh | intro w1 sh); have F := sh.fx)
      | fail)
  go_fit (ebk l hl 3 b6 b5 b4 b7 _ _ sh)
  clear sh; (try clear F)
  rintro e w1 ⟨rfl, sh⟩
  have F := sh.fx
  go_wp2_with (first
      | ((with_reducible first | refine Hp.wpl_box sh ?_ ?_ | refine Hp.wpa sh ?_ ?_ | refine Hp.atl_store ?_ ?_); exact rfl; (try (refine Hp.wsB sh ?_)); clear sh; (try clear F); go_simp; (first | intro b w1 sh | intro w1 sh); have F := sh.fx)
      | fail)
  go_fit (ebk l hl 4 b6 b5 b4 b7 _ _ sh)
  clear sh; (try clear F)
  rintro e w1 ⟨rfl, sh⟩
  have F := sh.fx
  simp only [Nat.reduceAdd, EvP.fits_eq2] at sh
  generalize hx : (EvP.st l 5).2.2 = x at sh
  generalize hr : (EvP.st l 5).2.1 = r at sh
  have HX := Lib.hid hx
  have HR := Lib.hid hr
  clear hx hr
  have F := sh.fx
  by_cases he : x = 0
  · subst he
    by_cases hr : r = []
    · subst hr
      have m1 : ((bstr []).toList == []) = true := by rw [bstr_toList]; rfl
      have m2 : ((bstr []).toList != []) = false := by rw [bne, m1]; rfl
      have m3 : bstr [] = ⟨#[]⟩ := rfl
      cases hg : EvP.fitsB l with
      | false =>
        rw [hg] at sh
        have F := sh.fx
        go_wp2_with (first
            | ((with_reducible first | refine Hp.wpl_box sh ?_ ?_ | refine Hp.wpa sh ?_ ?_ | refine Hp.atl_store ?_ ?_); exact rfl; (try (refine Hp.wsB sh ?_)); clear sh; (try clear F); go_simp; (first | intro b w1 sh | intro w1 sh); have F := sh.fx)
            | fail)
        exact bodyPost_ret (Hp.res_ct rfl rfl (sh.load 5 rfl (by kernel_rfl) (by kernel_rfl))) rfl ⟨congrArg Ending.returned (show EvP.getV (c :: l) = _ by rw [EvP.getV_cons, EvP.fin_no HX.out (fun h => by rw [hg] at h; exact absurd h.2.1 (by simp))]; rfl).symm, sh.below⟩
      | true =>
        rw [hg] at sh
        have F := sh.fx
        have H1 := fun W => eis (EvP.nth l 1) (EvP.bnd (EvP.nth l 2)) (EvP.bnd (EvP.nth l 3) - 1) c.toNat (EvP.bnd (EvP.nth l 4)) (EvP.bnd (EvP.nth l 5)) W (by have := EvP.nth_lt l 1; omega) (by omega) (by omega) (by omega) (by omega) (by omega)
        cases hi : EvP.isB (EvP.ev c l) with
        | false =>
          change EvP.isB (_, _, _, _, _, _) = false at hi
          rw [hi] at H1
          have H2 := Lib.hid H1
          have HI := Lib.hid hi
          clear H1 hi
          go_wp2_with (first
              | ((with_reducible first | refine Hp.wpl_box sh ?_ ?_ | refine Hp.wpa sh ?_ ?_ | refine Hp.atl_store ?_ ?_); exact rfl; (try (refine Hp.wsB sh ?_)); clear sh; (try clear F); go_simp; (first | intro b w1 sh | intro w1 sh); have F := sh.fx)
              | fail)
          go_fit (H2.out _)
          rintro e w1 ⟨rfl, hb⟩
          replace sh := sh.call hb; clear hb; (try clear F); have F := sh.fx
          go_wp2_with (first
              | ((with_reducible first | refine Hp.wpl_box sh ?_ ?_ | refine Hp.wpa sh ?_ ?_ | refine Hp.atl_store ?_ ?_); exact rfl; (try (refine Hp.wsB sh ?_)); clear sh; (try clear F); go_simp; (first | intro b w1 sh | intro w1 sh); have F := sh.fx)
              | fail)
          exact bodyPost_ret (Hp.res_ct rfl rfl (sh.load 5 rfl (by kernel_rfl) (by kernel_rfl))) rfl ⟨congrArg Ending.returned (show EvP.getV (c :: l) = _ by rw [EvP.getV_cons, EvP.fin_no HX.out (fun h => by have := h.2.2.symm.trans HI.out; cases this)]; rfl).symm, sh.below⟩
        | true =>
          change EvP.isB (_, _, _, _, _, _) = true at hi
          rw [hi] at H1
          have H2 := Lib.hid H1
          have HI := Lib.hid hi
          clear H1 hi
          go_wp2_with (first
              | ((with_reducible first | refine Hp.wpl_box sh ?_ ?_ | refine Hp.wpa sh ?_ ?_ | refine Hp.atl_store ?_ ?_); exact rfl; (try (refine Hp.wsB sh ?_)); clear sh; (try clear F); go_simp; (first | intro b w1 sh | intro w1 sh); have F := sh.fx)
              | fail)
          go_fit (H2.out _)
          rintro e w1 ⟨rfl, hb⟩
          replace sh := sh.call hb; clear hb; (try clear F); have F := sh.fx
          go_wp2_with (first
              | ((with_reducible first | refine Hp.wpl_box sh ?_ ?_ | refine Hp.wpa sh ?_ ?_ | refine Hp.atl_store ?_ ?_); exact rfl; (try (refine Hp.wsB sh ?_)); clear sh; (try clear F); go_simp; (first | intro b w1 sh | intro w1 sh); have F := sh.fx)
              | fail)
          exact bodyPost_ret (Hp.res_ct rfl rfl (sh.load 5 rfl (by kernel_rfl) (by kernel_rfl))) rfl ⟨congrArg Ending.returned (show EvP.getV (c :: l) = _ by rw [EvP.getV_cons, EvP.fin_yes HX.out ⟨HR.out, hg, HI.out⟩]; rfl).symm, sh.below⟩
    · have m1 : ((bstr r).toList == []) = false := by rw [bstr_toList, beq_eq_false_iff_ne]; exact hr
      have m2 : ((bstr r).toList != []) = true := by rw [bne, m1]; rfl
      have m3 : ¬ bstr r = ⟨#[]⟩ := fun h => hr (bstr_inj (b := []) h)
      go_wp2_with (first
          | ((with_reducible first | refine Hp.wpl_box sh ?_ ?_ | refine Hp.wpa sh ?_ ?_ | refine Hp.atl_store ?_ ?_); exact rfl; (try (refine Hp.wsB sh ?_)); clear sh; (try clear F); go_simp; (first | intro b w1 sh | intro w1 sh); have F := sh.fx)
          | fail)
      exact bodyPost_ret (Hp.res_ct rfl rfl (sh.load 5 rfl (by kernel_rfl) (by kernel_rfl))) rfl ⟨congrArg Ending.returned (show EvP.getV (c :: l) = _ by rw [EvP.getV_cons, EvP.fin_no HX.out (fun h => hr (HR.out.symm.trans h.1))]; rfl).symm, sh.below⟩
  · have m1 : (x != 0) = true := by rw [bne_iff_ne]; exact he
    go_wp2_with (first
        | ((with_reducible first | refine Hp.wpl_box sh ?_ ?_ | refine Hp.wpa sh ?_ ?_ | refine Hp.atl_store ?_ ?_); exact rfl; (try (refine Hp.wsB sh ?_)); clear sh; (try clear F); go_simp; (first | intro b w1 sh | intro w1 sh); have F := sh.fx)
        | fail)
    refine Hp.region_sh (by kernel_rfl) sh ?_; clear sh F; intro w1 sh; have F := sh.fx
    refine Hp.take (i := 0) (oi := ⟨some 39, Op.build 47 #[], _, _, _, none⟩) (v := ?_) rfl (by kernel_rfl) (by kernel_rfl) (by kernel_rfl) (fun _ _ _ h => h) (by rfl) ⟨sh.facts, sh.data⟩ ?_ ?_
    rotate_left
    · intro w' hh
      clear hh; go_simp
      try with_reducible rfl
    (try simp only [Act.put, Hp.p1, Hp.p2, Hp.p3])
    refine Hp.take (i := 1) (oi := ⟨some 40, Op.load 28 (Operand.tmp 5), _, _, _, none⟩) (v := ?_) rfl (by kernel_rfl) (by kernel_rfl) (by kernel_rfl) (fun _ _ _ h => h) (by rfl) ⟨sh.facts, sh.data⟩ ?_ ?_
    rotate_left
    · intro w' hh
      have F' := hh.1; have hd := hh.2; clear hh; (try simp only [Hp.Facts, Hp.CellsAt, Nat.reduceAdd, Hp.c1, Hp.c2] at F'); skip
      go_simp
      try with_reducible rfl
    (try simp only [Act.put, Hp.p1, Hp.p2, Hp.p3])
    refine Hp.branch [2] (by kernel_rfl) (by simp) ?_
    refine Hp.Each.cons ?_ ?_
    · refine Hp.op_step (o := ⟨none, Op.store 47 (Operand.tmp 2) (Operand.tmp 39), _, _, _, none⟩) rfl (by rfl) (fun K hK => ?_)
      refine Hp.wsB sh ?_; clear sh F; go_simp; intro w1 sh; have F := sh.fx
      refine hK _ _ ⟨sh.facts, sh.data⟩ ?_; clear hK K; (try simp only [Act.put, Hp.p1, Hp.p2, Hp.p3])
      refine Hp.take (i := 3) (oi := ⟨some 3, Op.assign (Operand.tmp 40), _, _, _, none⟩) (v := ?_) rfl (by kernel_rfl) (by kernel_rfl) (by kernel_rfl) (fun _ _ _ h => h) (by rfl) ⟨sh.facts, sh.data⟩ ?_ ?_
      rotate_left
      · intro w' hh
        clear hh; go_simp
        try with_reducible rfl
      (try simp only [Act.put, Hp.p1, Hp.p2, Hp.p3])
      refine wpAnyH_done (by kernel_rfl) ?_ _
      go_wp2_with (first
          | ((with_reducible first | refine Hp.wpl_box sh ?_ ?_ | refine Hp.wpa sh ?_ ?_ | refine Hp.atl_store ?_ ?_); exact rfl; (try (refine Hp.wsB sh ?_)); clear sh; (try clear F); go_simp; (first | intro b w1 sh | intro w1 sh); have F := sh.fx)
          | fail)
      exact bodyPost_ret (Hp.res_ct rfl rfl (sh.load 5 rfl (by kernel_rfl) (by kernel_rfl))) rfl ⟨congrArg Ending.returned (show EvP.getV (c :: l) = _ by rw [EvP.getV_cons, EvP.fin_err HX.out he]; rfl).symm, sh.below⟩
    exact Hp.Each.nil

end Go.Proofs.YtfcffglgkblidaaDoor
