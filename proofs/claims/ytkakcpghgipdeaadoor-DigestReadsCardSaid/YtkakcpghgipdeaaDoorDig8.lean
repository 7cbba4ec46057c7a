/-
  The walks of Hex, the program's and the reference's.
-/
import Derived.Test.YtkakcpghgipdeaaDoorDig7
namespace Go.Proofs.YtkakcpghgipdeaaDoor
open Go.RowKit
set_option linter.unusedVariables false
set_option linter.unusedSimpArgs false

namespace DigP
theorem sign_at {n : Nat} (h : n < 16) (h' : n < (bstr signs).size) : (bstr signs)[n]'h' = sign n := by
  rw [bget]
  have key : ∀ m : Fin 16, signs.getD m.val 0 = sign m.val := by decide
  exact key ⟨n, h⟩
theorem hex_next (d : List UInt8) {k : Nat} (h : k < d.length) : hex (d.take (k + 1)) = hex (d.take k) ++ [sign ((d.getD k 0).toNat / 16), sign ((d.getD k 0).toNat % 16)] := by
  rw [List.take_succ_eq_append_getElem h, List.getD_eq_getElem?_getD, List.getElem?_eq_getElem h]
  unfold hex
  rw [List.flatMap_append]; rfl
theorem and15 (c : UInt8) : bits .and .u8 (c.toNat : Int) 15 = ((c.toNat % 16 : Nat) : Int) := by
  have hc := c.toNat_lt
  show IntKind.u8.wrap ((BitVec.ofInt 8 (c.toNat : Int) &&& BitVec.ofInt 8 15).toNat : Int) = _
  rw [BitVec.ofInt_natCast, BitVec.toNat_and, BitVec.toNat_ofNat, show (BitVec.ofInt 8 15).toNat = 2 ^ 4 - 1 by decide, Nat.and_two_pow_sub_one_eq_mod, Nat.mod_eq_of_lt hc]
  simp [IntKind.wrap, IntKind.bits, IntKind.signed]
  omega
theorem bc_app (a b : List UInt8) : bcells a ++ bcells b = bcells (a ++ b) := by simp [bcells]
theorem made0 (n : Nat) : (madeCells (Value.int .u8 0).cells (n * 1)).size = n * 1 := by simp [madeCells]
end DigP

theorem Tryd.i_u8 : (Tryd.prog.info? 5).map (fun i => (i.zero, i.size, i.bytes)) = some (some (.int .u8 0), 1, 1) := by kernel_rfl
theorem didx (d : List UInt8) (hd : d.length = 32) (k : Nat) (hk : k < 32) (W : World) : (Instr.index 23 (.agg (DigP.bA d)) (.int .i64 (k : Int))).run Tryd.prog W = .ok (.int .u8 ((d.getD k 0).toNat : Int)) W := by
  have h1 : (Tryd.prog.info? 5).map (·.size) = some 1 := by kernel_rfl
  have h2 : (isAgg 5).run Tryd.prog W = .ok false W := by kernel_rfl
  have hg := DigP.bA_get (l := d) (k := k) (by rw [hd]; exact hk)
  have hkI : (k : Int) < 32 := by omega
  cases hq : Tryd.prog.info? 5 with
  | none => simp [hq] at h1
  | some q =>
    have hs : q.size = 1 := by simpa [hq] using h1
    simp [Instr.index, run_underlying Tryd.underlying23, asIntOf, part, sizeOf, typeInfo, hq, hs, h2, hkI, hg, go_sem]
    intro h; omega
set_option maxHeartbeats 8000000 in
set_option maxRecDepth 100000 in
theorem dhex (d : List UInt8) (hd : d.length = 32) (w : World) : Calls Tryd.prog 9 #[.agg (DigP.bA d)] w fun e w' => e = .returned (.string (bstr (DigP.hex d))) ∧ Below w.heap.size w w' := by
  have sh : Hp.Sh w w [] (fun _ => True) := Hp.Sh.start (fun _ _ => trivial)
  have HLI := Lib.hid (show (Tryd.prog.info? 23).map (·.size) = some (DigP.bA d).size by rw [DigP.bA_size, hd]; kernel_rfl)
  have HD := Lib.hid hd
  have HX := Lib.hid (fun W k h => didx d hd k h W)
  clear hd
  go_enter Tryd.func9, Tryd.ntmps9
  have tok_bd : True := trivial
  go_wp2_with (first
      | ((with_reducible refine Hp.atl_load 23 ?_); (refine Hp.wpl_load_all 1 sh rfl rfl rfl Tryd.underlying23 rfl (HLI.out) ?_); go_simp)
      | ((with_reducible refine Hp.atl_make ?_ ?_); exact rfl; (refine Hp.wp_make (m := 0) (kl := .i64) (kc := .i64) 64 Tryd.i_u8 Tryd.underlying42 (by decide) sh rfl rfl (by omega) (by omega) ?_); clear sh; (try clear F); intro g w1 sh; (have F := sh.facts; (try simp only [Hp.Facts, Hp.CellsAt, Nat.reduceAdd, List.cons_append, List.nil_append] at F)); go_simp)
      | ((have tok := tok_bd); clear tok tok_bd; (first | (with_reducible refine Hp.wpl_box sh ?_ ?_) | (with_reducible refine Hp.wpl_alloc Tryd.z_dig sh ?_ ?_)); exact rfl; clear sh; (try clear F); go_simp; intro bd w1 sh; have F := sh.facts; (try simp only [Hp.Facts, Hp.CellsAt, Nat.reduceAdd, List.cons_append, List.nil_append] at F))
      | ((with_reducible refine Hp.wpl_box sh ?_ ?_); exact rfl; clear sh; (try clear F); go_simp; intro b w1 sh; have F := sh.facts; (try simp only [Hp.Facts, Hp.CellsAt, Nat.reduceAdd, List.cons_append, List.nil_append] at F))
      | ((with_reducible refine Hp.wpl_alloc Tryd.z_dig sh ?_ ?_); exact rfl; clear sh; (try clear F); go_simp; intro b w1 sh; have F := sh.facts; (try simp only [Hp.Facts, Hp.CellsAt, Nat.reduceAdd, List.cons_append, List.nil_append] at F))
      | ((with_reducible refine Hp.atl_store ?_ ?_); exact rfl; (first | refine Hp.wp_store 0 sh rfl rfl rfl rfl (by kernel_rfl) (Nat.le_of_ble_eq_true rfl) rfl ?_ | refine Hp.wp_store 1 sh rfl rfl rfl rfl (by kernel_rfl) (Nat.le_of_ble_eq_true rfl) rfl ?_ | refine Hp.wp_store 2 sh rfl rfl rfl rfl (by kernel_rfl) (Nat.le_of_ble_eq_true rfl) rfl ?_ | refine Hp.wp_store 3 sh rfl rfl rfl rfl (by kernel_rfl) (Nat.le_of_ble_eq_true rfl) rfl ?_ | refine Hp.wp_store 4 sh rfl rfl rfl rfl (by kernel_rfl) (Nat.le_of_ble_eq_true rfl) rfl ?_ | refine Hp.wp_store 5 sh rfl rfl rfl rfl (by kernel_rfl) (Nat.le_of_ble_eq_true rfl) rfl ?_ | refine Hp.wp_store 6 sh rfl rfl rfl rfl (by kernel_rfl) (Nat.le_of_ble_eq_true rfl) rfl ?_); clear sh; (try clear F); go_simp; intro w1 sh; have F := sh.facts; (try simp only [Hp.Facts, Hp.CellsAt, Nat.reduceAdd, List.cons_append, List.nil_append] at F))
      | fail)
  go_loopw [3, 8] (fun v i wr => ∃ (k : Nat) (R : List Hp.Blk), i = .int .i64 k ∧ k ≤ 32 ∧ Hid (Hp.RowIs 5 1 v (2 * k) (bcells (DigP.hex (d.take k))) R) ∧ Hp.Sh w wr (R ++ [(bd, DigP.bA d, 23)]) (fun _ => True)) (fun _ i _ => 32 - (intOf i).toNat)
  case atStart => exact ⟨0, [(g, _, 5)], rfl, by omega, Hp.row_made (by decide) (DigP.made0 64), sh⟩
  case round =>
    clear sh F
    obtain ⟨k, R, rfl, hk, HR, sh⟩ := hrel
    by_cases hlt : k < 32
    · have hlI : (k : Int) < 32 := by omega
      have HT := Lib.hid (DigP.hex_next d (k := k) (by rw [HD.out]; exact hlt))
      have HC := Lib.hid (fun W (h : Hp.Sh w W (R ++ [(bd, DigP.bA d, 23)]) (fun _ => True)) => Hp.Sh.at h.dropA (i := 0) rfl (j := k) (DigP.bA_get (by rw [HD.out]; exact hlt)))
      have HI := Lib.hid (fun W => HX.out W k hlt)
      have hc := (d.getD k 0).toNat_lt
      have HF := Lib.hid (DigP.and15 (d.getD k 0))
      generalize d.getD k 0 = c at HT HC hc HF HI
      generalize c.toNat = x at HT HC hc HF HI
      have d1 : (x : Int) / 16 = ((x / 16 : Nat) : Int) := by omega
      have d2 : (x : Int) % 16 = ((x % 16 : Nat) : Int) := by omega
      have d3 : (x : Int).tmod 16 = ((x % 16 : Nat) : Int) := by rw [Int.tmod_eq_emod_of_nonneg (by omega)]; omega
      have d4 : (x : Int).tdiv 16 = ((x / 16 : Nat) : Int) := by rw [Int.tdiv_eq_ediv_of_nonneg (by omega)]; omega
      have d5 : IntKind.u8.wrap ((x / 16 : Nat) : Int) = ((x / 16 : Nat) : Int) := by simp [IntKind.wrap, IntKind.bits, IntKind.signed]; omega
      have d6 := HF.out
      have l1 : x / 16 < 16 := by omega
      have l2 : x % 16 < 16 := by omega
      have t1 : (ByteArray.mk #[48, 49, 50, 51, 52, 53, 54, 55, 56, 57, 97, 98, 99, 100, 101, 102])[x / 16]'(by exact l1) = DigP.sign (x / 16) := DigP.sign_at l1 (by rw [bstr_size]; exact l1)
      have t2 : (ByteArray.mk #[48, 49, 50, 51, 52, 53, 54, 55, 56, 57, 97, 98, 99, 100, 101, 102])[x % 16]'(by exact l2) = DigP.sign (x % 16) := DigP.sign_at l2 (by rw [bstr_size]; exact l2)
      generalize DigP.sign (x / 16) = s1 at t1 HT
      generalize DigP.sign (x % 16) = s2 at t2 HT
      generalize x / 16 = n1 at *
      generalize x % 16 = n2 at *
      have l1' : (n1 : Int) < 16 := by omega
      have l2' : (n2 : Int) < 16 := by omega
      have l3' : (0 : Int) ≤ (n1 : Int) := by omega
      have l4' : (0 : Int) ≤ (n2 : Int) := by omega
      have HN := Lib.hid (show bcells [s1, s2] = [.int .u8 (s1.toNat : Int), .int .u8 (s2.toNat : Int)] from rfl)
      have F : True := trivial
      have HI2 := HI.out
      go_wp2_with (first
          | ((with_reducible refine Hp.wpl_box sh ?_ ?_); exact rfl; clear sh; (try clear F); go_simp; intro b w1 sh; have F := sh.facts; (try simp only [Hp.Facts, Hp.CellsAt, Nat.reduceAdd, List.cons_append, List.nil_append] at F))
          | ((with_reducible refine Hp.wpl_alloc Tryd.z_dig sh ?_ ?_); exact rfl; clear sh; (try clear F); go_simp; intro b w1 sh; have F := sh.facts; (try simp only [Hp.Facts, Hp.CellsAt, Nat.reduceAdd, List.cons_append, List.nil_append] at F))
          | ((with_reducible refine Hp.atl_store ?_ ?_); exact rfl; (first | refine Hp.wp_store 0 sh rfl rfl rfl rfl (by kernel_rfl) (Nat.le_of_ble_eq_true rfl) rfl ?_ | refine Hp.wp_store 1 sh rfl rfl rfl rfl (by kernel_rfl) (Nat.le_of_ble_eq_true rfl) rfl ?_ | refine Hp.wp_store 2 sh rfl rfl rfl rfl (by kernel_rfl) (Nat.le_of_ble_eq_true rfl) rfl ?_ | refine Hp.wp_store 3 sh rfl rfl rfl rfl (by kernel_rfl) (Nat.le_of_ble_eq_true rfl) rfl ?_ | refine Hp.wp_store 4 sh rfl rfl rfl rfl (by kernel_rfl) (Nat.le_of_ble_eq_true rfl) rfl ?_ | refine Hp.wp_store 5 sh rfl rfl rfl rfl (by kernel_rfl) (Nat.le_of_ble_eq_true rfl) rfl ?_ | refine Hp.wp_store 6 sh rfl rfl rfl rfl (by kernel_rfl) (Nat.le_of_ble_eq_true rfl) rfl ?_); clear sh; (try clear F); go_simp; intro w1 sh; have F := sh.facts; (try simp only [Hp.Facts, Hp.CellsAt, Nat.reduceAdd, List.cons_append, List.nil_append] at F))
          | fail)
      clear HI2
      refine Hp.region_soft (by kernel_rfl) sh (fun _ q => Hp.Sh.dropA q) ?_; clear sh; (try clear F)
      (try simp only [])
      (refine Hp.soft_take (i := 0) (oi := ⟨some 11, Op.move (Operand.tmp 3), _, _, _, none⟩) _ rfl (by kernel_rfl) (by kernel_rfl) (by kernel_rfl) (fun _ _ _ h => h) (fun _ q => Hp.Sh.dropA q) (by rfl) (fun W hW => by go_simp; (try with_reducible rfl)) ?_; (try simp only [Act.put, List.setIfInBounds_toArray, List.set_cons_zero, List.set_cons_succ]))
      (refine Hp.soft_take (i := 1) (oi := ⟨some 12, Op.move (Operand.tmp 5), _, _, _, none⟩) _ rfl (by kernel_rfl) (by kernel_rfl) (by kernel_rfl) (fun _ _ _ h => h) (fun _ q => Hp.Sh.dropA q) (by rfl) (fun W hW => by go_simp; (try with_reducible rfl)) ?_; (try simp only [Act.put, List.setIfInBounds_toArray, List.set_cons_zero, List.set_cons_succ]))
      (refine Hp.soft_take (i := 2) (oi := ⟨some 13, Op.binOp BinOp.shr 5 (Operand.tmp 12) (Operand.const (Value.int IntKind.u64 4)) 40, _, _, _, none⟩) _ rfl (by kernel_rfl) (by kernel_rfl) (by kernel_rfl) (fun _ _ _ h => h) (fun _ q => Hp.Sh.dropA q) (by rfl) (fun W hW => by go_simp; (try with_reducible rfl)) ?_; (try simp only [Act.put, List.setIfInBounds_toArray, List.set_cons_zero, List.set_cons_succ]))
      (refine Hp.soft_take (i := 3) (oi := ⟨some 14, Op.index 9 (Operand.const (Value.string { data := #[48, 49, 50, 51, 52, 53, 54, 55, 56, 57, 97, 98, 99, 100, 101, 102] })) (Operand.tmp 13), _, _, _, none⟩) _ rfl (by kernel_rfl) (by kernel_rfl) (by kernel_rfl) (fun _ _ _ h => h) (fun _ q => Hp.Sh.dropA q) (by rfl) (fun W hW => by go_simp; (try with_reducible rfl)) ?_; (try simp only [Act.put, List.setIfInBounds_toArray, List.set_cons_zero, List.set_cons_succ]))
      (refine Hp.soft_take (i := 4) (oi := ⟨some 15, Op.move (Operand.tmp 5), _, _, _, none⟩) _ rfl (by kernel_rfl) (by kernel_rfl) (by kernel_rfl) (fun _ _ _ h => h) (fun _ q => Hp.Sh.dropA q) (by rfl) (fun W hW => by go_simp; (try with_reducible rfl)) ?_; (try simp only [Act.put, List.setIfInBounds_toArray, List.set_cons_zero, List.set_cons_succ]))
      (refine Hp.soft_take (i := 5) (oi := ⟨some 16, Op.binOp BinOp.and 5 (Operand.tmp 15) (Operand.const (Value.int IntKind.u8 15)) 5, _, _, _, none⟩) _ rfl (by kernel_rfl) (by kernel_rfl) (by kernel_rfl) (fun _ _ _ h => h) (fun _ q => Hp.Sh.dropA q) (by rfl) (fun W hW => by go_simp; (try with_reducible rfl)) ?_; (try simp only [Act.put, List.setIfInBounds_toArray, List.set_cons_zero, List.set_cons_succ]))
      (refine Hp.soft_take (i := 6) (oi := ⟨some 17, Op.index 9 (Operand.const (Value.string { data := #[48, 49, 50, 51, 52, 53, 54, 55, 56, 57, 97, 98, 99, 100, 101, 102] })) (Operand.tmp 16), _, _, _, none⟩) _ rfl (by kernel_rfl) (by kernel_rfl) (by kernel_rfl) (fun _ _ _ h => h) (fun _ q => Hp.Sh.dropA q) (by rfl) (fun W hW => by go_simp; (try with_reducible rfl)) ?_; (try simp only [Act.put, List.setIfInBounds_toArray, List.set_cons_zero, List.set_cons_succ]))
      refine Hp.soft_make (i := 7) (o := ⟨some 18, Op.buildSlice 42 2 #[(0, Operand.tmp 14), (1, Operand.tmp 17)], _, _, _, none⟩) (by kernel_rfl) rfl (by rfl) (fun w1 sh K hK => ?_); (try clear F); (try have F := Hp.Sh.facts sh); (try simp only [Hp.Facts, Hp.CellsAt, Nat.reduceAdd, List.cons_append, List.nil_append] at F); (refine Hp.wp_lit 2 (bcells [s1, s2]) Tryd.i_u8 Tryd.underlying42 sh rfl rfl (by omega) rfl ?_; clear sh; intro bl w1 sh; replace sh := sh.freeze1 (vs := bcells [s1, s2]) (fun i v h => by simpa using h)); refine hK _ _ _ _ _ _ (fun _ q => Hp.Sh.dropA q) (fun _ q => q.imp fun W h => h.2) sh ?_; clear hK K; clear sh; (try clear F); (try simp only [Act.put, List.setIfInBounds_toArray, List.set_cons_zero, List.set_cons_succ])
      refine Hp.soft_make (i := 8) (o := ⟨some 19, Op.call { callee := Callee.builtin Builtin.append, args := #[Operand.tmp 11, Operand.tmp 18], argTypes := #[42, 42] }, _, _, _, none⟩) (by kernel_rfl) rfl (by rfl) (fun w1 sh K hK => ?_); (try clear F); (try have F := Hp.Sh.facts sh); (try simp only [Hp.Facts, Hp.CellsAt, Nat.reduceAdd, List.cons_append, List.nil_append] at F); (refine Hp.wp_append (R := R) (H := [_]) (news := bcells [s1, s2]) Tryd.i_u8 Tryd.underlying42 (by decide) rfl (by decide) sh HR.out rfl rfl rfl sh.data.1 (fun h => by cases h) (Hp.ones_mem rfl) (by omega) ?_; clear sh; intro v1 R1 w1 sh hr; have HR1 := Lib.hid hr; clear hr); refine hK _ _ _ _ _ _ (fun _ q => Hp.Sh.dropA q) (fun _ q => q) sh ?_; clear hK K; clear sh; (try clear F); (try simp only [Act.put, List.setIfInBounds_toArray, List.set_cons_zero, List.set_cons_succ])
      (refine Hp.soft_take (i := 9) (oi := ⟨some 3, Op.assign (Operand.tmp 19), _, _, _, none⟩) _ rfl (by kernel_rfl) (by kernel_rfl) (by kernel_rfl) (fun _ _ _ h => h) (fun _ q => Hp.Sh.dropA q) (by rfl) (fun W hW => by go_simp; (try with_reducible rfl)) ?_; (try simp only [Act.put, List.setIfInBounds_toArray, List.set_cons_zero, List.set_cons_succ]))
      refine Hp.soft_done (by kernel_rfl) (fun w1 sh => ?_) _; (try clear F); (try have F := Hp.Sh.facts sh); (try simp only [Hp.Facts, Hp.CellsAt, Nat.reduceAdd, List.cons_append, List.nil_append] at F)
      clear d1 d2 d3 d4 d5 d6 l1 l2 t1 t2 l1' l2' l3' l4'; go_wp2; go_roundw; (case rel => exact ⟨k + 1, R1, by go_num, by omega, (by have := HR1.out; rw [DigP.bc_app, ← HT.out] at this; exact this), sh.imp fun W h => h.2⟩); (case measure => simp [intOf]; omega)
    · obtain rfl : k = 32 := by omega
      rw [List.take_of_length_le (by rw [HD.out]; omega)] at HR
      obtain ⟨g, cp, rfl, -⟩ := HR.out.head (by omega)
      have hcv := conv_owned (P := Tryd.prog) (sh.ownsRow HR.out) (by rw [DigP.hex_length, HD.out]) Tryd.underlying42 Tryd.underlying5 Tryd.underlying9
      have F : True := trivial
      go_wp2_with (first
          | ((with_reducible refine Hp.wpl_box sh ?_ ?_); exact rfl; clear sh; (try clear F); go_simp; intro b w1 sh; have F := sh.facts; (try simp only [Hp.Facts, Hp.CellsAt, Nat.reduceAdd, List.cons_append, List.nil_append] at F))
          | ((with_reducible refine Hp.wpl_alloc Tryd.z_dig sh ?_ ?_); exact rfl; clear sh; (try clear F); go_simp; intro b w1 sh; have F := sh.facts; (try simp only [Hp.Facts, Hp.CellsAt, Nat.reduceAdd, List.cons_append, List.nil_append] at F))
          | ((with_reducible refine Hp.atl_store ?_ ?_); exact rfl; (first | refine Hp.wp_store 0 sh rfl rfl rfl rfl (by kernel_rfl) (Nat.le_of_ble_eq_true rfl) rfl ?_ | refine Hp.wp_store 1 sh rfl rfl rfl rfl (by kernel_rfl) (Nat.le_of_ble_eq_true rfl) rfl ?_ | refine Hp.wp_store 2 sh rfl rfl rfl rfl (by kernel_rfl) (Nat.le_of_ble_eq_true rfl) rfl ?_ | refine Hp.wp_store 3 sh rfl rfl rfl rfl (by kernel_rfl) (Nat.le_of_ble_eq_true rfl) rfl ?_ | refine Hp.wp_store 4 sh rfl rfl rfl rfl (by kernel_rfl) (Nat.le_of_ble_eq_true rfl) rfl ?_ | refine Hp.wp_store 5 sh rfl rfl rfl rfl (by kernel_rfl) (Nat.le_of_ble_eq_true rfl) rfl ?_ | refine Hp.wp_store 6 sh rfl rfl rfl rfl (by kernel_rfl) (Nat.le_of_ble_eq_true rfl) rfl ?_); clear sh; (try clear F); go_simp; intro w1 sh; have F := sh.facts; (try simp only [Hp.Facts, Hp.CellsAt, Nat.reduceAdd, List.cons_append, List.nil_append] at F))
          | fail)
      go_ret
      exact ⟨rfl, sh.below⟩

set_option maxHeartbeats 8000000 in
set_option maxRecDepth 100000 in
theorem drhex (d : List UInt8) (hd : d.length = 32) (w : World) : Calls Tryd.prog 10 #[.agg (DigP.bA d)] w fun e w' => e = .returned (.string (bstr (DigP.hex d))) ∧ Below w.heap.size w w' := by
  have sh : Hp.Sh w w [] (fun _ => True) := Hp.Sh.start (fun _ _ => trivial)
  have HLI := Lib.hid (show (Tryd.prog.info? 23).map (·.size) = some (DigP.bA d).size by rw [DigP.bA_size, hd]; kernel_rfl)
  have HD := Lib.hid hd
  have HX := Lib.hid (fun W k h => didx d hd k h W)
  clear hd
  go_enter Tryd.func10, Tryd.ntmps10
  have tok_bd : True := trivial
  go_wp2_with (first
      | ((have tok := tok_bd); clear tok tok_bd; (first | (with_reducible refine Hp.wpl_box sh ?_ ?_) | (with_reducible refine Hp.wpl_alloc Tryd.z_dig sh ?_ ?_)); exact rfl; clear sh; (try clear F); go_simp; intro bd w1 sh; have F := sh.facts; (try simp only [Hp.Facts, Hp.CellsAt, Nat.reduceAdd, List.cons_append, List.nil_append] at F))
      | ((with_reducible refine Hp.wpl_box sh ?_ ?_); exact rfl; clear sh; (try clear F); go_simp; intro b w1 sh; have F := sh.facts; (try simp only [Hp.Facts, Hp.CellsAt, Nat.reduceAdd, List.cons_append, List.nil_append] at F))
      | ((with_reducible refine Hp.wpl_alloc Tryd.z_dig sh ?_ ?_); exact rfl; clear sh; (try clear F); go_simp; intro b w1 sh; have F := sh.facts; (try simp only [Hp.Facts, Hp.CellsAt, Nat.reduceAdd, List.cons_append, List.nil_append] at F))
      | ((with_reducible refine Hp.atl_store ?_ ?_); exact rfl; (first | refine Hp.wp_store 0 sh rfl rfl rfl rfl (by kernel_rfl) (Nat.le_of_ble_eq_true rfl) rfl ?_ | refine Hp.wp_store 1 sh rfl rfl rfl rfl (by kernel_rfl) (Nat.le_of_ble_eq_true rfl) rfl ?_ | refine Hp.wp_store 2 sh rfl rfl rfl rfl (by kernel_rfl) (Nat.le_of_ble_eq_true rfl) rfl ?_ | refine Hp.wp_store 3 sh rfl rfl rfl rfl (by kernel_rfl) (Nat.le_of_ble_eq_true rfl) rfl ?_ | refine Hp.wp_store 4 sh rfl rfl rfl rfl (by kernel_rfl) (Nat.le_of_ble_eq_true rfl) rfl ?_ | refine Hp.wp_store 5 sh rfl rfl rfl rfl (by kernel_rfl) (Nat.le_of_ble_eq_true rfl) rfl ?_ | refine Hp.wp_store 6 sh rfl rfl rfl rfl (by kernel_rfl) (Nat.le_of_ble_eq_true rfl) rfl ?_); clear sh; (try clear F); go_simp; intro w1 sh; have F := sh.facts; (try simp only [Hp.Facts, Hp.CellsAt, Nat.reduceAdd, List.cons_append, List.nil_append] at F))
      | fail)
  go_loopw [3, 4] (fun v i wr => ∃ (k : Nat) (R : List Hp.Blk), i = .int .i64 k ∧ k ≤ 32 ∧ Hid (Hp.RowIs 5 1 v (2 * k) (bcells (DigP.hex (d.take k))) R) ∧ Hp.Sh w wr (R ++ [(bd, DigP.bA d, 23)]) (fun _ => True)) (fun _ i _ => 32 - (intOf i).toNat)
  case atStart => exact ⟨0, [], rfl, by omega, (Hp.RowIs.nil 5 1 : _), sh⟩
  case round =>
    clear sh F
    obtain ⟨k, R, rfl, hk, HR, sh⟩ := hrel
    by_cases hlt : k < 32
    · have hlI : (k : Int) < 32 := by omega
      have HT := Lib.hid (DigP.hex_next d (k := k) (by rw [HD.out]; exact hlt))
      have HC := Lib.hid (fun W (h : Hp.Sh w W (R ++ [(bd, DigP.bA d, 23)]) (fun _ => True)) => Hp.Sh.at h.dropA (i := 0) rfl (j := k) (DigP.bA_get (by rw [HD.out]; exact hlt)))
      have HI := Lib.hid (fun W => HX.out W k hlt)
      have hc := (d.getD k 0).toNat_lt
      have HF := Lib.hid (DigP.and15 (d.getD k 0))
      generalize d.getD k 0 = c at HT HC hc HF HI
      generalize c.toNat = x at HT HC hc HF HI
      have d1 : (x : Int) / 16 = ((x / 16 : Nat) : Int) := by omega
      have d2 : (x : Int) % 16 = ((x % 16 : Nat) : Int) := by omega
      have d3 : (x : Int).tmod 16 = ((x % 16 : Nat) : Int) := by rw [Int.tmod_eq_emod_of_nonneg (by omega)]; omega
      have d4 : (x : Int).tdiv 16 = ((x / 16 : Nat) : Int) := by rw [Int.tdiv_eq_ediv_of_nonneg (by omega)]; omega
      have d5 : IntKind.u8.wrap ((x / 16 : Nat) : Int) = ((x / 16 : Nat) : Int) := by simp [IntKind.wrap, IntKind.bits, IntKind.signed]; omega
      have d6 := HF.out
      have l1 : x / 16 < 16 := by omega
      have l2 : x % 16 < 16 := by omega
      have t1 : (ByteArray.mk #[48, 49, 50, 51, 52, 53, 54, 55, 56, 57, 97, 98, 99, 100, 101, 102])[x / 16]'(by exact l1) = DigP.sign (x / 16) := DigP.sign_at l1 (by rw [bstr_size]; exact l1)
      have t2 : (ByteArray.mk #[48, 49, 50, 51, 52, 53, 54, 55, 56, 57, 97, 98, 99, 100, 101, 102])[x % 16]'(by exact l2) = DigP.sign (x % 16) := DigP.sign_at l2 (by rw [bstr_size]; exact l2)
      generalize DigP.sign (x / 16) = s1 at t1 HT
      generalize DigP.sign (x % 16) = s2 at t2 HT
      generalize x / 16 = n1 at *
      generalize x % 16 = n2 at *
      have l1' : (n1 : Int) < 16 := by omega
      have l2' : (n2 : Int) < 16 := by omega
      have l3' : (0 : Int) ≤ (n1 : Int) := by omega
      have l4' : (0 : Int) ≤ (n2 : Int) := by omega
      have HN := Lib.hid (show bcells [s1, s2] = [.int .u8 (s1.toNat : Int), .int .u8 (s2.toNat : Int)] from rfl)
      have F : True := trivial
      go_wp2_with (first
          | ((with_reducible refine Hp.wpl_box sh ?_ ?_); exact rfl; clear sh; (try clear F); go_simp; intro b w1 sh; have F := sh.facts; (try simp only [Hp.Facts, Hp.CellsAt, Nat.reduceAdd, List.cons_append, List.nil_append] at F))
          | ((with_reducible refine Hp.wpl_alloc Tryd.z_dig sh ?_ ?_); exact rfl; clear sh; (try clear F); go_simp; intro b w1 sh; have F := sh.facts; (try simp only [Hp.Facts, Hp.CellsAt, Nat.reduceAdd, List.cons_append, List.nil_append] at F))
          | ((with_reducible refine Hp.atl_store ?_ ?_); exact rfl; (first | refine Hp.wp_store 0 sh rfl rfl rfl rfl (by kernel_rfl) (Nat.le_of_ble_eq_true rfl) rfl ?_ | refine Hp.wp_store 1 sh rfl rfl rfl rfl (by kernel_rfl) (Nat.le_of_ble_eq_true rfl) rfl ?_ | refine Hp.wp_store 2 sh rfl rfl rfl rfl (by kernel_rfl) (Nat.le_of_ble_eq_true rfl) rfl ?_ | refine Hp.wp_store 3 sh rfl rfl rfl rfl (by kernel_rfl) (Nat.le_of_ble_eq_true rfl) rfl ?_ | refine Hp.wp_store 4 sh rfl rfl rfl rfl (by kernel_rfl) (Nat.le_of_ble_eq_true rfl) rfl ?_ | refine Hp.wp_store 5 sh rfl rfl rfl rfl (by kernel_rfl) (Nat.le_of_ble_eq_true rfl) rfl ?_ | refine Hp.wp_store 6 sh rfl rfl rfl rfl (by kernel_rfl) (Nat.le_of_ble_eq_true rfl) rfl ?_); clear sh; (try clear F); go_simp; intro w1 sh; have F := sh.facts; (try simp only [Hp.Facts, Hp.CellsAt, Nat.reduceAdd, List.cons_append, List.nil_append] at F))
          | fail)
      refine Hp.region_soft (by kernel_rfl) sh (fun _ q => Hp.Sh.dropA q) ?_; clear sh; (try clear F)
      (try simp only [])
      (refine Hp.soft_take (i := 0) (oi := ⟨some 9, Op.move (Operand.tmp 3), _, _, _, none⟩) _ rfl (by kernel_rfl) (by kernel_rfl) (by kernel_rfl) (fun _ _ _ h => h) (fun _ q => Hp.Sh.dropA q) (by rfl) (fun W hW => by go_simp; (try with_reducible rfl)) ?_; (try simp only [Act.put, List.setIfInBounds_toArray, List.set_cons_zero, List.set_cons_succ]))
      (refine Hp.soft_take (i := 1) (oi := ⟨some 10, Op.move (Operand.tmp 4), _, _, _, none⟩) _ rfl (by kernel_rfl) (by kernel_rfl) (by kernel_rfl) (fun _ _ _ h => h) (fun _ q => Hp.Sh.dropA q) (by rfl) (fun W hW => by go_simp; (try with_reducible rfl)) ?_; (try simp only [Act.put, List.setIfInBounds_toArray, List.set_cons_zero, List.set_cons_succ]))
      (refine Hp.soft_take (i := 2) (oi := ⟨some 11, Op.indexAddr 23 (Operand.tmp 1) (Operand.tmp 10), _, _, _, none⟩) _ rfl (by kernel_rfl) (by kernel_rfl) (by kernel_rfl) (fun _ _ _ h => h) (fun _ q => Hp.Sh.dropA q) (by rfl) (fun W hW => by go_simp; (try with_reducible rfl)) ?_; (try simp only [Act.put, List.setIfInBounds_toArray, List.set_cons_zero, List.set_cons_succ]))
      (refine Hp.soft_take (i := 6) (oi := ⟨some 15, Op.move (Operand.tmp 4), _, _, _, none⟩) _ rfl (by kernel_rfl) (by kernel_rfl) (by kernel_rfl) (fun _ _ _ h => h) (fun _ q => Hp.Sh.dropA q) (by rfl) (fun W hW => by go_simp; (try with_reducible rfl)) ?_; (try simp only [Act.put, List.setIfInBounds_toArray, List.set_cons_zero, List.set_cons_succ]))
      (refine Hp.soft_take (i := 7) (oi := ⟨some 16, Op.indexAddr 23 (Operand.tmp 1) (Operand.tmp 15), _, _, _, none⟩) _ rfl (by kernel_rfl) (by kernel_rfl) (by kernel_rfl) (fun _ _ _ h => h) (fun _ q => Hp.Sh.dropA q) (by rfl) (fun W hW => by go_simp; (try with_reducible rfl)) ?_; (try simp only [Act.put, List.setIfInBounds_toArray, List.set_cons_zero, List.set_cons_succ]))
      refine Hp.soft_two (i := 3) (j := 8) (by kernel_rfl) ?_ ?_
      · refine Hp.soft_step (o := ⟨some 12, Op.load 5 (Operand.tmp 11), _, _, _, none⟩) rfl (by rfl) (fun w1 sh K hK => ?_); (try clear F); (try have F := Hp.Sh.facts sh); (try simp only [Hp.Facts, Hp.CellsAt, Nat.reduceAdd, List.cons_append, List.nil_append] at F); (have hcs := HC.out _ sh; go_simp); refine hK _ _ _ _ _ _ (fun _ q => Hp.Sh.dropA q) (fun _ q => q) sh ?_; clear hK K; clear sh; (try clear F); (try simp only [Act.put, List.setIfInBounds_toArray, List.set_cons_zero, List.set_cons_succ])
        (refine Hp.soft_take (i := 4) (oi := ⟨some 13, Op.binOp BinOp.quo 5 (Operand.tmp 12) (Operand.const (Value.int IntKind.u8 16)) 5, _, _, _, none⟩) _ rfl (by kernel_rfl) (by kernel_rfl) (by kernel_rfl) (fun _ _ _ h => h) (fun _ q => Hp.Sh.dropA q) (by rfl) (fun W hW => by go_simp; (try with_reducible rfl)) ?_; (try simp only [Act.put, List.setIfInBounds_toArray, List.set_cons_zero, List.set_cons_succ]))
        (refine Hp.soft_take (i := 5) (oi := ⟨some 14, Op.index 9 (Operand.const (Value.string { data := #[48, 49, 50, 51, 52, 53, 54, 55, 56, 57, 97, 98, 99, 100, 101, 102] })) (Operand.tmp 13), _, _, _, none⟩) _ rfl (by kernel_rfl) (by kernel_rfl) (by kernel_rfl) (fun _ _ _ h => h) (fun _ q => Hp.Sh.dropA q) (by rfl) (fun W hW => by go_simp; (try with_reducible rfl)) ?_; (try simp only [Act.put, List.setIfInBounds_toArray, List.set_cons_zero, List.set_cons_succ]))
        refine Hp.soft_make (i := 8) (o := ⟨some 17, Op.load 5 (Operand.tmp 16), _, _, _, none⟩) (by kernel_rfl) rfl (by rfl) (fun w1 sh K hK => ?_); (try clear F); (try have F := Hp.Sh.facts sh); (try simp only [Hp.Facts, Hp.CellsAt, Nat.reduceAdd, List.cons_append, List.nil_append] at F); (have hcs := HC.out _ sh; go_simp); refine hK _ _ _ _ _ _ (fun _ q => Hp.Sh.dropA q) (fun _ q => q) sh ?_; clear hK K; clear sh; (try clear F); (try simp only [Act.put, List.setIfInBounds_toArray, List.set_cons_zero, List.set_cons_succ])
        (refine Hp.soft_take (i := 9) (oi := ⟨some 18, Op.binOp BinOp.rem 5 (Operand.tmp 17) (Operand.const (Value.int IntKind.u8 16)) 5, _, _, _, none⟩) _ rfl (by kernel_rfl) (by kernel_rfl) (by kernel_rfl) (fun _ _ _ h => h) (fun _ q => Hp.Sh.dropA q) (by rfl) (fun W hW => by go_simp; (try with_reducible rfl)) ?_; (try simp only [Act.put, List.setIfInBounds_toArray, List.set_cons_zero, List.set_cons_succ]))
        (refine Hp.soft_take (i := 10) (oi := ⟨some 19, Op.index 9 (Operand.const (Value.string { data := #[48, 49, 50, 51, 52, 53, 54, 55, 56, 57, 97, 98, 99, 100, 101, 102] })) (Operand.tmp 18), _, _, _, none⟩) _ rfl (by kernel_rfl) (by kernel_rfl) (by kernel_rfl) (fun _ _ _ h => h) (fun _ q => Hp.Sh.dropA q) (by rfl) (fun W hW => by go_simp; (try with_reducible rfl)) ?_; (try simp only [Act.put, List.setIfInBounds_toArray, List.set_cons_zero, List.set_cons_succ]))
        refine Hp.soft_make (i := 11) (o := ⟨some 20, Op.buildSlice 42 2 #[(0, Operand.tmp 14), (1, Operand.tmp 19)], _, _, _, none⟩) (by kernel_rfl) rfl (by rfl) (fun w1 sh K hK => ?_); (try clear F); (try have F := Hp.Sh.facts sh); (try simp only [Hp.Facts, Hp.CellsAt, Nat.reduceAdd, List.cons_append, List.nil_append] at F); (refine Hp.wp_lit 2 (bcells [s1, s2]) Tryd.i_u8 Tryd.underlying42 sh rfl rfl (by omega) rfl ?_; clear sh; intro bl w1 sh; replace sh := sh.freeze1 (vs := bcells [s1, s2]) (fun i v h => by simpa using h)); refine hK _ _ _ _ _ _ (fun _ q => Hp.Sh.dropA q) (fun _ q => q.imp fun W h => h.2) sh ?_; clear hK K; clear sh; (try clear F); (try simp only [Act.put, List.setIfInBounds_toArray, List.set_cons_zero, List.set_cons_succ])
        refine Hp.soft_make (i := 12) (o := ⟨some 21, Op.call { callee := Callee.builtin Builtin.append, args := #[Operand.tmp 9, Operand.tmp 20], argTypes := #[42, 42] }, _, _, _, none⟩) (by kernel_rfl) rfl (by rfl) (fun w1 sh K hK => ?_); (try clear F); (try have F := Hp.Sh.facts sh); (try simp only [Hp.Facts, Hp.CellsAt, Nat.reduceAdd, List.cons_append, List.nil_append] at F); (refine Hp.wp_append (R := R) (H := [_]) (news := bcells [s1, s2]) Tryd.i_u8 Tryd.underlying42 (by decide) rfl (by decide) sh HR.out rfl rfl rfl sh.data.1 (fun h => by cases h) (Hp.ones_mem rfl) (by omega) ?_; clear sh; intro v1 R1 w1 sh hr; have HR1 := Lib.hid hr; clear hr); refine hK _ _ _ _ _ _ (fun _ q => Hp.Sh.dropA q) (fun _ q => q) sh ?_; clear hK K; clear sh; (try clear F); (try simp only [Act.put, List.setIfInBounds_toArray, List.set_cons_zero, List.set_cons_succ])
        (refine Hp.soft_take (i := 13) (oi := ⟨some 3, Op.assign (Operand.tmp 21), _, _, _, none⟩) _ rfl (by kernel_rfl) (by kernel_rfl) (by kernel_rfl) (fun _ _ _ h => h) (fun _ q => Hp.Sh.dropA q) (by rfl) (fun W hW => by go_simp; (try with_reducible rfl)) ?_; (try simp only [Act.put, List.setIfInBounds_toArray, List.set_cons_zero, List.set_cons_succ]))
        refine Hp.soft_done (by kernel_rfl) (fun w1 sh => ?_) _; (try clear F); (try have F := Hp.Sh.facts sh); (try simp only [Hp.Facts, Hp.CellsAt, Nat.reduceAdd, List.cons_append, List.nil_append] at F)
        (clear d1 d2 d3 d4 d5 d6 l1 l2 t1 t2 l1' l2' l3' l4'; go_wp2; go_roundw; (case rel => exact ⟨k + 1, R1, by go_num, by omega, (by have := HR1.out; rw [DigP.bc_app, ← HT.out] at this; exact this), sh.imp fun W h => h.2⟩); (case measure => simp [intOf]; omega))
      · refine Hp.soft_step (o := ⟨some 17, Op.load 5 (Operand.tmp 16), _, _, _, none⟩) rfl (by rfl) (fun w1 sh K hK => ?_); (try clear F); (try have F := Hp.Sh.facts sh); (try simp only [Hp.Facts, Hp.CellsAt, Nat.reduceAdd, List.cons_append, List.nil_append] at F); (have hcs := HC.out _ sh; go_simp); refine hK _ _ _ _ _ _ (fun _ q => Hp.Sh.dropA q) (fun _ q => q) sh ?_; clear hK K; clear sh; (try clear F); (try simp only [Act.put, List.setIfInBounds_toArray, List.set_cons_zero, List.set_cons_succ])
        (refine Hp.soft_take (i := 9) (oi := ⟨some 18, Op.binOp BinOp.rem 5 (Operand.tmp 17) (Operand.const (Value.int IntKind.u8 16)) 5, _, _, _, none⟩) _ rfl (by kernel_rfl) (by kernel_rfl) (by kernel_rfl) (fun _ _ _ h => h) (fun _ q => Hp.Sh.dropA q) (by rfl) (fun W hW => by go_simp; (try with_reducible rfl)) ?_; (try simp only [Act.put, List.setIfInBounds_toArray, List.set_cons_zero, List.set_cons_succ]))
        (refine Hp.soft_take (i := 10) (oi := ⟨some 19, Op.index 9 (Operand.const (Value.string { data := #[48, 49, 50, 51, 52, 53, 54, 55, 56, 57, 97, 98, 99, 100, 101, 102] })) (Operand.tmp 18), _, _, _, none⟩) _ rfl (by kernel_rfl) (by kernel_rfl) (by kernel_rfl) (fun _ _ _ h => h) (fun _ q => Hp.Sh.dropA q) (by rfl) (fun W hW => by go_simp; (try with_reducible rfl)) ?_; (try simp only [Act.put, List.setIfInBounds_toArray, List.set_cons_zero, List.set_cons_succ]))
        refine Hp.soft_make (i := 3) (o := ⟨some 12, Op.load 5 (Operand.tmp 11), _, _, _, none⟩) (by kernel_rfl) rfl (by rfl) (fun w1 sh K hK => ?_); (try clear F); (try have F := Hp.Sh.facts sh); (try simp only [Hp.Facts, Hp.CellsAt, Nat.reduceAdd, List.cons_append, List.nil_append] at F); (have hcs := HC.out _ sh; go_simp); refine hK _ _ _ _ _ _ (fun _ q => Hp.Sh.dropA q) (fun _ q => q) sh ?_; clear hK K; clear sh; (try clear F); (try simp only [Act.put, List.setIfInBounds_toArray, List.set_cons_zero, List.set_cons_succ])
        (refine Hp.soft_take (i := 4) (oi := ⟨some 13, Op.binOp BinOp.quo 5 (Operand.tmp 12) (Operand.const (Value.int IntKind.u8 16)) 5, _, _, _, none⟩) _ rfl (by kernel_rfl) (by kernel_rfl) (by kernel_rfl) (fun _ _ _ h => h) (fun _ q => Hp.Sh.dropA q) (by rfl) (fun W hW => by go_simp; (try with_reducible rfl)) ?_; (try simp only [Act.put, List.setIfInBounds_toArray, List.set_cons_zero, List.set_cons_succ]))
        (refine Hp.soft_take (i := 5) (oi := ⟨some 14, Op.index 9 (Operand.const (Value.string { data := #[48, 49, 50, 51, 52, 53, 54, 55, 56, 57, 97, 98, 99, 100, 101, 102] })) (Operand.tmp 13), _, _, _, none⟩) _ rfl (by kernel_rfl) (by kernel_rfl) (by kernel_rfl) (fun _ _ _ h => h) (fun _ q => Hp.Sh.dropA q) (by rfl) (fun W hW => by go_simp; (try with_reducible rfl)) ?_; (try simp only [Act.put, List.setIfInBounds_toArray, List.set_cons_zero, List.set_cons_succ]))
        refine Hp.soft_make (i := 11) (o := ⟨some 20, Op.buildSlice 42 2 #[(0, Operand.tmp 14), (1, Operand.tmp 19)], _, _, _, none⟩) (by kernel_rfl) rfl (by rfl) (fun w1 sh K hK => ?_); (try clear F); (try have F := Hp.Sh.facts sh); (try simp only [Hp.Facts, Hp.CellsAt, Nat.reduceAdd, List.cons_append, List.nil_append] at F); (refine Hp.wp_lit 2 (bcells [s1, s2]) Tryd.i_u8 Tryd.underlying42 sh rfl rfl (by omega) rfl ?_; clear sh; intro bl w1 sh; replace sh := sh.freeze1 (vs := bcells [s1, s2]) (fun i v h => by simpa using h)); refine hK _ _ _ _ _ _ (fun _ q => Hp.Sh.dropA q) (fun _ q => q.imp fun W h => h.2) sh ?_; clear hK K; clear sh; (try clear F); (try simp only [Act.put, List.setIfInBounds_toArray, List.set_cons_zero, List.set_cons_succ])
        refine Hp.soft_make (i := 12) (o := ⟨some 21, Op.call { callee := Callee.builtin Builtin.append, args := #[Operand.tmp 9, Operand.tmp 20], argTypes := #[42, 42] }, _, _, _, none⟩) (by kernel_rfl) rfl (by rfl) (fun w1 sh K hK => ?_); (try clear F); (try have F := Hp.Sh.facts sh); (try simp only [Hp.Facts, Hp.CellsAt, Nat.reduceAdd, List.cons_append, List.nil_append] at F); (refine Hp.wp_append (R := R) (H := [_]) (news := bcells [s1, s2]) Tryd.i_u8 Tryd.underlying42 (by decide) rfl (by decide) sh HR.out rfl rfl rfl sh.data.1 (fun h => by cases h) (Hp.ones_mem rfl) (by omega) ?_; clear sh; intro v1 R1 w1 sh hr; have HR1 := Lib.hid hr; clear hr); refine hK _ _ _ _ _ _ (fun _ q => Hp.Sh.dropA q) (fun _ q => q) sh ?_; clear hK K; clear sh; (try clear F); (try simp only [Act.put, List.setIfInBounds_toArray, List.set_cons_zero, List.set_cons_succ])
        (refine Hp.soft_take (i := 13) (oi := ⟨some 3, Op.assign (Operand.tmp 21), _, _, _, none⟩) _ rfl (by kernel_rfl) (by kernel_rfl) (by kernel_rfl) (fun _ _ _ h => h) (fun _ q => Hp.Sh.dropA q) (by rfl) (fun W hW => by go_simp; (try with_reducible rfl)) ?_; (try simp only [Act.put, List.setIfInBounds_toArray, List.set_cons_zero, List.set_cons_succ]))
        refine Hp.soft_done (by kernel_rfl) (fun w1 sh => ?_) _; (try clear F); (try have F := Hp.Sh.facts sh); (try simp only [Hp.Facts, Hp.CellsAt, Nat.reduceAdd, List.cons_append, List.nil_append] at F)
        (clear d1 d2 d3 d4 d5 d6 l1 l2 t1 t2 l1' l2' l3' l4'; go_wp2; go_roundw; (case rel => exact ⟨k + 1, R1, by go_num, by omega, (by have := HR1.out; rw [DigP.bc_app, ← HT.out] at this; exact this), sh.imp fun W h => h.2⟩); (case measure => simp [intOf]; omega))
    · obtain rfl : k = 32 := by omega
      rw [List.take_of_length_le (by rw [HD.out]; omega)] at HR
      obtain ⟨g, cp, rfl, -⟩ := HR.out.head (by omega)
      have hcv := conv_owned (P := Tryd.prog) (sh.ownsRow HR.out) (by rw [DigP.hex_length, HD.out]) Tryd.underlying42 Tryd.underlying5 Tryd.underlying9
      have F : True := trivial
      go_wp2_with (first
          | ((with_reducible refine Hp.wpl_box sh ?_ ?_); exact rfl; clear sh; (try clear F); go_simp; intro b w1 sh; have F := sh.facts; (try simp only [Hp.Facts, Hp.CellsAt, Nat.reduceAdd, List.cons_append, List.nil_append] at F))
          | ((with_reducible refine Hp.wpl_alloc Tryd.z_dig sh ?_ ?_); exact rfl; clear sh; (try clear F); go_simp; intro b w1 sh; have F := sh.facts; (try simp only [Hp.Facts, Hp.CellsAt, Nat.reduceAdd, List.cons_append, List.nil_append] at F))
          | ((with_reducible refine Hp.atl_store ?_ ?_); exact rfl; (first | refine Hp.wp_store 0 sh rfl rfl rfl rfl (by kernel_rfl) (Nat.le_of_ble_eq_true rfl) rfl ?_ | refine Hp.wp_store 1 sh rfl rfl rfl rfl (by kernel_rfl) (Nat.le_of_ble_eq_true rfl) rfl ?_ | refine Hp.wp_store 2 sh rfl rfl rfl rfl (by kernel_rfl) (Nat.le_of_ble_eq_true rfl) rfl ?_ | refine Hp.wp_store 3 sh rfl rfl rfl rfl (by kernel_rfl) (Nat.le_of_ble_eq_true rfl) rfl ?_ | refine Hp.wp_store 4 sh rfl rfl rfl rfl (by kernel_rfl) (Nat.le_of_ble_eq_true rfl) rfl ?_ | refine Hp.wp_store 5 sh rfl rfl rfl rfl (by kernel_rfl) (Nat.le_of_ble_eq_true rfl) rfl ?_ | refine Hp.wp_store 6 sh rfl rfl rfl rfl (by kernel_rfl) (Nat.le_of_ble_eq_true rfl) rfl ?_); clear sh; (try clear F); go_simp; intro w1 sh; have F := sh.facts; (try simp only [Hp.Facts, Hp.CellsAt, Nat.reduceAdd, List.cons_append, List.nil_append] at F))
          | fail)
      go_ret
      exact ⟨rfl, sh.below⟩

end Go.Proofs.YtkakcpghgipdeaaDoor
