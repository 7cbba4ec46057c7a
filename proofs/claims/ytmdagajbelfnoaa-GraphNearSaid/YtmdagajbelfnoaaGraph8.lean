/-
  The walks of Ahead and Behind, Far and Closed.
-/
import Derived.Test.YtmdagajbelfnoaaGraph7
namespace Go.Proofs.Ytmdagajbelfnoaa
open Go.RowKit
set_option linter.unusedVariables false
set_option linter.unusedSimpArgs false


set_option maxHeartbeats 4000000 in set_option maxRecDepth 100000 in
theorem greached0 (pm : Int) (ps : Option Addr) (pn pc : Nat) (ws : Option Addr) (wn wq : Nat) (hs : Option Addr) (hn hc : Nat) (x : Int) (bp bt : Nat) (t : Bool) (w : World) (hpn : pn ≤ 9223372036854775807) (hx : -9223372036854775808 ≤ x ∧ x ≤ 9223372036854775807) (hpa : GraP.isP pn x = false) :
    Calls Try.prog 19 #[.agg #[.int .i64 pm, .slice ps pn pc, .slice ws wn wq, .slice hs hn hc], .int .i64 x, .func (.func 24) #[] #[.pointer (some ⟨bp, 0, none⟩), .pointer (some ⟨bt, 0, none⟩)]] w fun e w' => e = .returned (.int .u64 0) ∧ Below w.heap.size w w' := by
  have sh : Hp.Sh w w [] (fun _ => True) := Hp.Sh.start (fun _ _ => trivial)
  have HI := Lib.hid (fun W => gisPart pm ps pn pc ws wn wq hs hn hc x W hpn hx)
  rw [hpa] at HI
  clear hpa
  go_enter Try.func19, Try.ntmps19
  have tok_bx : True := trivial
  go_wp2_with (first
      | ((have tok := tok_bx); clear tok tok_bx; (first | (with_reducible refine Hp.wpl_box sh ?_ ?_) | (with_reducible refine Hp.wpl_alloc Try.z_chan sh ?_ ?_)); exact rfl; clear sh; (try clear F); go_simp; intro bx w1 sh; have F := sh.facts; (try simp only [Hp.Facts, Hp.CellsAt, Nat.reduceAdd, List.cons_append, List.nil_append] at F))
      | ((with_reducible refine Hp.wpl_box sh ?_ ?_); exact rfl; clear sh; (try clear F); go_simp; intro b w1 sh; have F := sh.facts; (try simp only [Hp.Facts, Hp.CellsAt, Nat.reduceAdd, List.cons_append, List.nil_append] at F))
      | ((with_reducible refine Hp.wpl_alloc Try.z_chan sh ?_ ?_); exact rfl; clear sh; (try clear F); go_simp; intro b w1 sh; have F := sh.facts; (try simp only [Hp.Facts, Hp.CellsAt, Nat.reduceAdd, List.cons_append, List.nil_append] at F))
      | ((with_reducible refine Hp.atl_store ?_ ?_); exact rfl; (first | refine Hp.wp_store 0 sh rfl rfl rfl rfl (by kernel_rfl) (Nat.le_of_ble_eq_true rfl) rfl ?_ | refine Hp.wp_store 1 sh rfl rfl rfl rfl (by kernel_rfl) (Nat.le_of_ble_eq_true rfl) rfl ?_ | refine Hp.wp_store 2 sh rfl rfl rfl rfl (by kernel_rfl) (Nat.le_of_ble_eq_true rfl) rfl ?_ | refine Hp.wp_store 3 sh rfl rfl rfl rfl (by kernel_rfl) (Nat.le_of_ble_eq_true rfl) rfl ?_ | refine Hp.wp_store 4 sh rfl rfl rfl rfl (by kernel_rfl) (Nat.le_of_ble_eq_true rfl) rfl ?_ | refine Hp.wp_store 5 sh rfl rfl rfl rfl (by kernel_rfl) (Nat.le_of_ble_eq_true rfl) rfl ?_ | refine Hp.wp_store 6 sh rfl rfl rfl rfl (by kernel_rfl) (Nat.le_of_ble_eq_true rfl) rfl ?_); clear sh; (try clear F); go_simp; intro w1 sh; have F := sh.facts; (try simp only [Hp.Facts, Hp.CellsAt, Nat.reduceAdd, List.cons_append, List.nil_append] at F))
      | fail)
  go_step3
  go_wp2_with (first
      | ((with_reducible refine Hp.wpl_box sh ?_ ?_); exact rfl; clear sh; (try clear F); go_simp; intro b w1 sh; have F := sh.facts; (try simp only [Hp.Facts, Hp.CellsAt, Nat.reduceAdd, List.cons_append, List.nil_append] at F))
      | ((with_reducible refine Hp.wpl_alloc Try.z_chan sh ?_ ?_); exact rfl; clear sh; (try clear F); go_simp; intro b w1 sh; have F := sh.facts; (try simp only [Hp.Facts, Hp.CellsAt, Nat.reduceAdd, List.cons_append, List.nil_append] at F))
      | ((with_reducible refine Hp.atl_store ?_ ?_); exact rfl; (first | refine Hp.wp_store 0 sh rfl rfl rfl rfl (by kernel_rfl) (Nat.le_of_ble_eq_true rfl) rfl ?_ | refine Hp.wp_store 1 sh rfl rfl rfl rfl (by kernel_rfl) (Nat.le_of_ble_eq_true rfl) rfl ?_ | refine Hp.wp_store 2 sh rfl rfl rfl rfl (by kernel_rfl) (Nat.le_of_ble_eq_true rfl) rfl ?_ | refine Hp.wp_store 3 sh rfl rfl rfl rfl (by kernel_rfl) (Nat.le_of_ble_eq_true rfl) rfl ?_ | refine Hp.wp_store 4 sh rfl rfl rfl rfl (by kernel_rfl) (Nat.le_of_ble_eq_true rfl) rfl ?_ | refine Hp.wp_store 5 sh rfl rfl rfl rfl (by kernel_rfl) (Nat.le_of_ble_eq_true rfl) rfl ?_ | refine Hp.wp_store 6 sh rfl rfl rfl rfl (by kernel_rfl) (Nat.le_of_ble_eq_true rfl) rfl ?_); clear sh; (try clear F); go_simp; intro w1 sh; have F := sh.facts; (try simp only [Hp.Facts, Hp.CellsAt, Nat.reduceAdd, List.cons_append, List.nil_append] at F))
      | fail)
  go_fit (HI.out _)
  rintro e w1 ⟨rfl, hb⟩
  replace sh := sh.call hb; clear hb; (try clear F); have F := sh.facts; (try simp only [Hp.Facts, Hp.CellsAt, Nat.reduceAdd, List.cons_append, List.nil_append] at F)
  go_wp2_with (first
      | ((with_reducible refine Hp.wpl_box sh ?_ ?_); exact rfl; clear sh; (try clear F); go_simp; intro b w1 sh; have F := sh.facts; (try simp only [Hp.Facts, Hp.CellsAt, Nat.reduceAdd, List.cons_append, List.nil_append] at F))
      | ((with_reducible refine Hp.wpl_alloc Try.z_chan sh ?_ ?_); exact rfl; clear sh; (try clear F); go_simp; intro b w1 sh; have F := sh.facts; (try simp only [Hp.Facts, Hp.CellsAt, Nat.reduceAdd, List.cons_append, List.nil_append] at F))
      | ((with_reducible refine Hp.atl_store ?_ ?_); exact rfl; (first | refine Hp.wp_store 0 sh rfl rfl rfl rfl (by kernel_rfl) (Nat.le_of_ble_eq_true rfl) rfl ?_ | refine Hp.wp_store 1 sh rfl rfl rfl rfl (by kernel_rfl) (Nat.le_of_ble_eq_true rfl) rfl ?_ | refine Hp.wp_store 2 sh rfl rfl rfl rfl (by kernel_rfl) (Nat.le_of_ble_eq_true rfl) rfl ?_ | refine Hp.wp_store 3 sh rfl rfl rfl rfl (by kernel_rfl) (Nat.le_of_ble_eq_true rfl) rfl ?_ | refine Hp.wp_store 4 sh rfl rfl rfl rfl (by kernel_rfl) (Nat.le_of_ble_eq_true rfl) rfl ?_ | refine Hp.wp_store 5 sh rfl rfl rfl rfl (by kernel_rfl) (Nat.le_of_ble_eq_true rfl) rfl ?_ | refine Hp.wp_store 6 sh rfl rfl rfl rfl (by kernel_rfl) (Nat.le_of_ble_eq_true rfl) rfl ?_); clear sh; (try clear F); go_simp; intro w1 sh; have F := sh.facts; (try simp only [Hp.Facts, Hp.CellsAt, Nat.reduceAdd, List.cons_append, List.nil_append] at F))
      | fail)
  (try rw [Exit.noGoto_ret])
  go_ret
  exact ⟨rfl, sh.below⟩

theorem greachedV (pm : Int) (ps : Option Addr) (pn pc : Nat) (ws : Option Addr) (wn wq : Nat) (hs : Option Addr) (hn hc : Nat) (x : Int) (bp bt : Nat) (t : Bool) (L : List GraP.Ch) (w : World) (hpn : pn ≤ 9223372036854775807) (hhn : hn ≤ 9223372036854775807) (hl0 : hn = L.length) (hrg : ∀ c ∈ L, (-9223372036854775808 ≤ c.2.1 ∧ c.2.1 ≤ 9223372036854775807) ∧ (-9223372036854775808 ≤ c.2.2.1 ∧ c.2.2.1 ≤ 9223372036854775807)) (hx : -9223372036854775808 ≤ x ∧ x ≤ 9223372036854775807) (hR : Hp.RdV w hs (GraP.chv L)) (hcap : GraP.Cap [.int .i64 pm, .slice ps pn pc, .slice ws wn wq, .slice hs hn hc] bp bt t w) :
    Calls Try.prog 19 #[.agg #[.int .i64 pm, .slice ps pn pc, .slice ws wn wq, .slice hs hn hc], .int .i64 x, .func (.func 24) #[] #[.pointer (some ⟨bp, 0, none⟩), .pointer (some ⟨bt, 0, none⟩)]] w fun e w' => e = .returned (.int .u64 ((GraP.reachV pn t L x : Nat) : Int)) ∧ Below w.heap.size w w' := by
  cases h : GraP.isP pn x with
  | false => unfold GraP.reachV; rw [h]; exact greached0 pm ps pn pc ws wn wq hs hn hc x bp bt t w hpn hx h
  | true =>
    have h' := GraP.isP_iff.1 h
    obtain ⟨a, rfl⟩ := Int.eq_ofNat_of_zero_le h'.1
    have := greached pm ps pn pc ws wn wq hs hn hc a bp bt t L w hpn hhn hl0 hrg (by omega) h hR hcap
    unfold GraP.reachV
    rw [if_pos h]
    exact this

set_option maxHeartbeats 4000000 in set_option maxRecDepth 100000 in
theorem gahead (pm : Int) (ps : Option Addr) (pn pc : Nat) (ws : Option Addr) (wn wq : Nat) (hs : Option Addr) (hn hc : Nat) (x : Int) (L : List GraP.Ch) (w : World) (hpn : pn ≤ 9223372036854775807) (hhn : hn ≤ 9223372036854775807) (hl0 : hn = L.length) (hrg : ∀ c ∈ L, (-9223372036854775808 ≤ c.2.1 ∧ c.2.1 ≤ 9223372036854775807) ∧ (-9223372036854775808 ≤ c.2.2.1 ∧ c.2.2.1 ≤ 9223372036854775807)) (hx : -9223372036854775808 ≤ x ∧ x ≤ 9223372036854775807) (hR : Hp.RdV w hs (GraP.chv L)) :
    Calls Try.prog 10 #[.agg #[.int .i64 pm, .slice ps pn pc, .slice ws wn wq, .slice hs hn hc], .int .i64 x] w fun e w' => e = .returned (.int .u64 ((GraP.reachV pn true L x : Nat) : Int)) ∧ Below w.heap.size w w' := by
  have sh := Hp.Sh.start (RdV_rob hR)
  have HRE := Lib.hid (fun bp bt W h1 h2 => greachedV pm ps pn pc ws wn wq hs hn hc x bp bt true L W hpn hhn hl0 hrg hx h1 h2)
  have HEN := Lib.hid (fun w H D sh => gends pm ps pn pc ws wn wq hs hn hc true w w H D sh)
  clear hR hl0 hrg
  generalize GraP.reachV pn true L x = r at HRE
  go_enter Try.func10, Try.ntmps10
  have tok_bx : True := trivial
  go_wp2_with (first
      | ((have tok := tok_bx); clear tok tok_bx; (first | (with_reducible refine Hp.wpl_box sh ?_ ?_) | (with_reducible refine Hp.wpl_alloc Try.z_chan sh ?_ ?_)); exact rfl; clear sh; (try clear F); go_simp; intro bx w1 sh; have F := sh.facts; (try simp only [Hp.Facts, Hp.CellsAt, Nat.reduceAdd, List.cons_append, List.nil_append] at F))
      | ((with_reducible refine Hp.wpl_box sh ?_ ?_); exact rfl; clear sh; (try clear F); go_simp; intro b w1 sh; have F := sh.facts; (try simp only [Hp.Facts, Hp.CellsAt, Nat.reduceAdd, List.cons_append, List.nil_append] at F))
      | ((with_reducible refine Hp.wpl_alloc Try.z_chan sh ?_ ?_); exact rfl; clear sh; (try clear F); go_simp; intro b w1 sh; have F := sh.facts; (try simp only [Hp.Facts, Hp.CellsAt, Nat.reduceAdd, List.cons_append, List.nil_append] at F))
      | ((with_reducible refine Hp.atl_store ?_ ?_); exact rfl; (first | refine Hp.wp_store 0 sh rfl rfl rfl rfl (by kernel_rfl) (Nat.le_of_ble_eq_true rfl) rfl ?_ | refine Hp.wp_store 1 sh rfl rfl rfl rfl (by kernel_rfl) (Nat.le_of_ble_eq_true rfl) rfl ?_ | refine Hp.wp_store 2 sh rfl rfl rfl rfl (by kernel_rfl) (Nat.le_of_ble_eq_true rfl) rfl ?_ | refine Hp.wp_store 3 sh rfl rfl rfl rfl (by kernel_rfl) (Nat.le_of_ble_eq_true rfl) rfl ?_ | refine Hp.wp_store 4 sh rfl rfl rfl rfl (by kernel_rfl) (Nat.le_of_ble_eq_true rfl) rfl ?_ | refine Hp.wp_store 5 sh rfl rfl rfl rfl (by kernel_rfl) (Nat.le_of_ble_eq_true rfl) rfl ?_ | refine Hp.wp_store 6 sh rfl rfl rfl rfl (by kernel_rfl) (Nat.le_of_ble_eq_true rfl) rfl ?_); clear sh; (try clear F); go_simp; intro w1 sh; have F := sh.facts; (try simp only [Hp.Facts, Hp.CellsAt, Nat.reduceAdd, List.cons_append, List.nil_append] at F))
      | fail)
  refine Hp.region_sh (by kernel_rfl) sh ?_; clear sh F; intro w1 sh; have F := sh.facts; (try simp only [Hp.Facts, Hp.CellsAt, Nat.reduceAdd, List.cons_append, List.nil_append] at F)
  refine Hp.take (i := 0) (oi := ⟨some 5, Op.load 26 (Operand.tmp 2), _, _, _, none⟩) (v := ?_) rfl (by kernel_rfl) (by kernel_rfl) (by kernel_rfl) (fun _ _ _ h => h) (by rfl) ⟨sh.facts, sh.data⟩ ?_ ?_
  rotate_left
  · intro w' hh
    have F' := hh.1; have hd := hh.2; clear hh; (try simp only [Hp.Facts, Hp.CellsAt, Nat.reduceAdd, List.cons_append, List.nil_append] at F'); skip
    go_simp
    try with_reducible rfl
  (try simp only [Act.put, List.setIfInBounds_toArray, List.set_cons_zero, List.set_cons_succ])
  refine Hp.take (i := 1) (oi := ⟨some 6, Op.move (Operand.tmp 1), _, _, _, none⟩) (v := ?_) rfl (by kernel_rfl) (by kernel_rfl) (by kernel_rfl) (fun _ _ _ h => h) (by rfl) ⟨sh.facts, sh.data⟩ ?_ ?_
  rotate_left
  · intro w' hh
    clear hh; go_simp
    try with_reducible rfl
  (try simp only [Act.put, List.setIfInBounds_toArray, List.set_cons_zero, List.set_cons_succ])
  refine Hp.take (i := 2) (oi := ⟨some 7, Op.load 26 (Operand.tmp 2), _, _, _, none⟩) (v := ?_) rfl (by kernel_rfl) (by kernel_rfl) (by kernel_rfl) (fun _ _ _ h => h) (by rfl) ⟨sh.facts, sh.data⟩ ?_ ?_
  rotate_left
  · intro w' hh
    have F' := hh.1; have hd := hh.2; clear hh; (try simp only [Hp.Facts, Hp.CellsAt, Nat.reduceAdd, List.cons_append, List.nil_append] at F'); skip
    go_simp
    try with_reducible rfl
  (try simp only [Act.put, List.setIfInBounds_toArray, List.set_cons_zero, List.set_cons_succ])
  refine Hp.branch [3] (by kernel_rfl) (by simp) ?_
  refine Hp.Each.cons ?_ ?_
  · refine Hp.op_step (o := ⟨some 8, Op.call { callee := Callee.value (Operand.func 20), args := #[Operand.tmp 7, Operand.const (Value.bool true)], argTypes := #[26, 4] }, _, _, _, none⟩) rfl (by rfl) (fun K hK => ?_)
    go_simp
    go_fit ((gends pm ps pn pc ws wn wq hs hn hc true w _ _ _ sh)); clear sh; (try clear F); rintro e w1 ⟨bp, bt, rfl, sh⟩; have F := sh.facts; (try simp only [Hp.Facts, Hp.CellsAt, Nat.reduceAdd, List.cons_append, List.nil_append] at F)
    refine hK _ _ ⟨sh.facts, sh.data.2⟩ ?_; clear hK K; (try simp only [Act.put, List.setIfInBounds_toArray, List.set_cons_zero, List.set_cons_succ])
    refine Hp.branch [4] (by kernel_rfl) (by simp) ?_
    refine Hp.Each.cons ?_ ?_
    · refine Hp.op_step (o := ⟨some 9, Op.call { callee := Callee.value (Operand.func 19), args := #[Operand.tmp 5, Operand.tmp 6, Operand.tmp 8], argTypes := #[26, 3, 45] }, _, _, _, none⟩) rfl (by rfl) (fun K hK => ?_)
      go_simp
      go_fit ((HRE.out bp bt _ sh.data.2 sh.data.1)); rintro e w1 ⟨rfl, hb⟩; replace sh := sh.call hb; clear hb; (try clear F); have F := sh.facts; (try simp only [Hp.Facts, Hp.CellsAt, Nat.reduceAdd, List.cons_append, List.nil_append] at F)
      refine hK _ _ ⟨sh.facts, sh.data.2⟩ ?_; clear hK K; (try simp only [Act.put, List.setIfInBounds_toArray, List.set_cons_zero, List.set_cons_succ])
      refine Hp.take (i := 5) (oi := ⟨some 4, Op.assign (Operand.tmp 9), _, _, _, none⟩) (v := ?_) rfl (by kernel_rfl) (by kernel_rfl) (by kernel_rfl) (fun _ _ _ h => h) (by rfl) ⟨sh.facts, sh.data.2⟩ ?_ ?_
      rotate_left
      · intro w' hh
        clear hh; go_simp
        try with_reducible rfl
      (try simp only [Act.put, List.setIfInBounds_toArray, List.set_cons_zero, List.set_cons_succ])
      refine wpAnyH_done (by kernel_rfl) ?_ _
      go_wp2; go_ret; exact ⟨rfl, sh.below⟩
    exact Hp.Each.nil
  exact Hp.Each.nil

set_option maxHeartbeats 4000000 in set_option maxRecDepth 100000 in
theorem gbehind (pm : Int) (ps : Option Addr) (pn pc : Nat) (ws : Option Addr) (wn wq : Nat) (hs : Option Addr) (hn hc : Nat) (x : Int) (L : List GraP.Ch) (w : World) (hpn : pn ≤ 9223372036854775807) (hhn : hn ≤ 9223372036854775807) (hl0 : hn = L.length) (hrg : ∀ c ∈ L, (-9223372036854775808 ≤ c.2.1 ∧ c.2.1 ≤ 9223372036854775807) ∧ (-9223372036854775808 ≤ c.2.2.1 ∧ c.2.2.1 ≤ 9223372036854775807)) (hx : -9223372036854775808 ≤ x ∧ x ≤ 9223372036854775807) (hR : Hp.RdV w hs (GraP.chv L)) :
    Calls Try.prog 12 #[.agg #[.int .i64 pm, .slice ps pn pc, .slice ws wn wq, .slice hs hn hc], .int .i64 x] w fun e w' => e = .returned (.int .u64 ((GraP.reachV pn false L x : Nat) : Int)) ∧ Below w.heap.size w w' := by
  have sh := Hp.Sh.start (RdV_rob hR)
  have HRE := Lib.hid (fun bp bt W h1 h2 => greachedV pm ps pn pc ws wn wq hs hn hc x bp bt false L W hpn hhn hl0 hrg hx h1 h2)
  clear hR hl0 hrg
  generalize GraP.reachV pn false L x = r at HRE
  go_enter Try.func12, Try.ntmps12
  have tok_bx : True := trivial
  go_wp2_with (first
      | ((have tok := tok_bx); clear tok tok_bx; (first | (with_reducible refine Hp.wpl_box sh ?_ ?_) | (with_reducible refine Hp.wpl_alloc Try.z_chan sh ?_ ?_)); exact rfl; clear sh; (try clear F); go_simp; intro bx w1 sh; have F := sh.facts; (try simp only [Hp.Facts, Hp.CellsAt, Nat.reduceAdd, List.cons_append, List.nil_append] at F))
      | ((with_reducible refine Hp.wpl_box sh ?_ ?_); exact rfl; clear sh; (try clear F); go_simp; intro b w1 sh; have F := sh.facts; (try simp only [Hp.Facts, Hp.CellsAt, Nat.reduceAdd, List.cons_append, List.nil_append] at F))
      | ((with_reducible refine Hp.wpl_alloc Try.z_chan sh ?_ ?_); exact rfl; clear sh; (try clear F); go_simp; intro b w1 sh; have F := sh.facts; (try simp only [Hp.Facts, Hp.CellsAt, Nat.reduceAdd, List.cons_append, List.nil_append] at F))
      | ((with_reducible refine Hp.atl_store ?_ ?_); exact rfl; (first | refine Hp.wp_store 0 sh rfl rfl rfl rfl (by kernel_rfl) (Nat.le_of_ble_eq_true rfl) rfl ?_ | refine Hp.wp_store 1 sh rfl rfl rfl rfl (by kernel_rfl) (Nat.le_of_ble_eq_true rfl) rfl ?_ | refine Hp.wp_store 2 sh rfl rfl rfl rfl (by kernel_rfl) (Nat.le_of_ble_eq_true rfl) rfl ?_ | refine Hp.wp_store 3 sh rfl rfl rfl rfl (by kernel_rfl) (Nat.le_of_ble_eq_true rfl) rfl ?_ | refine Hp.wp_store 4 sh rfl rfl rfl rfl (by kernel_rfl) (Nat.le_of_ble_eq_true rfl) rfl ?_ | refine Hp.wp_store 5 sh rfl rfl rfl rfl (by kernel_rfl) (Nat.le_of_ble_eq_true rfl) rfl ?_ | refine Hp.wp_store 6 sh rfl rfl rfl rfl (by kernel_rfl) (Nat.le_of_ble_eq_true rfl) rfl ?_); clear sh; (try clear F); go_simp; intro w1 sh; have F := sh.facts; (try simp only [Hp.Facts, Hp.CellsAt, Nat.reduceAdd, List.cons_append, List.nil_append] at F))
      | fail)
  refine Hp.region_sh (by kernel_rfl) sh ?_; clear sh F; intro w1 sh; have F := sh.facts; (try simp only [Hp.Facts, Hp.CellsAt, Nat.reduceAdd, List.cons_append, List.nil_append] at F)
  refine Hp.take (i := 0) (oi := ⟨some 5, Op.load 26 (Operand.tmp 2), _, _, _, none⟩) (v := ?_) rfl (by kernel_rfl) (by kernel_rfl) (by kernel_rfl) (fun _ _ _ h => h) (by rfl) ⟨sh.facts, sh.data⟩ ?_ ?_
  rotate_left
  · intro w' hh
    have F' := hh.1; have hd := hh.2; clear hh; (try simp only [Hp.Facts, Hp.CellsAt, Nat.reduceAdd, List.cons_append, List.nil_append] at F'); skip
    go_simp
    try with_reducible rfl
  (try simp only [Act.put, List.setIfInBounds_toArray, List.set_cons_zero, List.set_cons_succ])
  refine Hp.take (i := 1) (oi := ⟨some 6, Op.move (Operand.tmp 1), _, _, _, none⟩) (v := ?_) rfl (by kernel_rfl) (by kernel_rfl) (by kernel_rfl) (fun _ _ _ h => h) (by rfl) ⟨sh.facts, sh.data⟩ ?_ ?_
  rotate_left
  · intro w' hh
    clear hh; go_simp
    try with_reducible rfl
  (try simp only [Act.put, List.setIfInBounds_toArray, List.set_cons_zero, List.set_cons_succ])
  refine Hp.take (i := 2) (oi := ⟨some 7, Op.load 26 (Operand.tmp 2), _, _, _, none⟩) (v := ?_) rfl (by kernel_rfl) (by kernel_rfl) (by kernel_rfl) (fun _ _ _ h => h) (by rfl) ⟨sh.facts, sh.data⟩ ?_ ?_
  rotate_left
  · intro w' hh
    have F' := hh.1; have hd := hh.2; clear hh; (try simp only [Hp.Facts, Hp.CellsAt, Nat.reduceAdd, List.cons_append, List.nil_append] at F'); skip
    go_simp
    try with_reducible rfl
  (try simp only [Act.put, List.setIfInBounds_toArray, List.set_cons_zero, List.set_cons_succ])
  refine Hp.branch [3] (by kernel_rfl) (by simp) ?_
  refine Hp.Each.cons ?_ ?_
  · refine Hp.op_step (o := ⟨some 8, Op.call { callee := Callee.value (Operand.func 20), args := #[Operand.tmp 7, Operand.const (Value.bool false)], argTypes := #[26, 4] }, _, _, _, none⟩) rfl (by rfl) (fun K hK => ?_)
    go_simp
    go_fit ((gends pm ps pn pc ws wn wq hs hn hc false w _ _ _ sh)); clear sh; (try clear F); rintro e w1 ⟨bp, bt, rfl, sh⟩; have F := sh.facts; (try simp only [Hp.Facts, Hp.CellsAt, Nat.reduceAdd, List.cons_append, List.nil_append] at F)
    refine hK _ _ ⟨sh.facts, sh.data.2⟩ ?_; clear hK K; (try simp only [Act.put, List.setIfInBounds_toArray, List.set_cons_zero, List.set_cons_succ])
    refine Hp.branch [4] (by kernel_rfl) (by simp) ?_
    refine Hp.Each.cons ?_ ?_
    · refine Hp.op_step (o := ⟨some 9, Op.call { callee := Callee.value (Operand.func 19), args := #[Operand.tmp 5, Operand.tmp 6, Operand.tmp 8], argTypes := #[26, 3, 45] }, _, _, _, none⟩) rfl (by rfl) (fun K hK => ?_)
      go_simp
      go_fit ((HRE.out bp bt _ sh.data.2 sh.data.1)); rintro e w1 ⟨rfl, hb⟩; replace sh := sh.call hb; clear hb; (try clear F); have F := sh.facts; (try simp only [Hp.Facts, Hp.CellsAt, Nat.reduceAdd, List.cons_append, List.nil_append] at F)
      refine hK _ _ ⟨sh.facts, sh.data.2⟩ ?_; clear hK K; (try simp only [Act.put, List.setIfInBounds_toArray, List.set_cons_zero, List.set_cons_succ])
      refine Hp.take (i := 5) (oi := ⟨some 4, Op.assign (Operand.tmp 9), _, _, _, none⟩) (v := ?_) rfl (by kernel_rfl) (by kernel_rfl) (by kernel_rfl) (fun _ _ _ h => h) (by rfl) ⟨sh.facts, sh.data.2⟩ ?_ ?_
      rotate_left
      · intro w' hh
        clear hh; go_simp
        try with_reducible rfl
      (try simp only [Act.put, List.setIfInBounds_toArray, List.set_cons_zero, List.set_cons_succ])
      refine wpAnyH_done (by kernel_rfl) ?_ _
      go_wp2; go_ret; exact ⟨rfl, sh.below⟩
    exact Hp.Each.nil
  exact Hp.Each.nil

end Go.Proofs.Ytmdagajbelfnoaa
