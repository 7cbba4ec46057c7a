/-
  The walks of package health: the teller's deeds, and Tell.
-/
import Derived.Test.YtbebcbbjbnohnaaHealth2
import Derived.Test.YtbebcbbjbnohnaaMaps
namespace Go.Proofs.Ytbebcbbjbnohnaa
open Go.RowKit
set_option linter.unusedVariables false
set_option linter.unusedSimpArgs false


set_option maxHeartbeats 1000000 in
set_option maxRecDepth 100000 in
theorem hskip (p : Option Addr) (w : World) : Calls Try.prog 18 #[.pointer p] w fun e w' => e = .returned (.int .i64 1) ∧ w = w' := by
  go_enter Try.func18, Try.ntmps18
  go_wp2
  go_ret
  exact ⟨rfl, rfl⟩

set_option maxHeartbeats 1000000 in
set_option maxRecDepth 100000 in
theorem hhalt (p0 p1 p2 : Int) (cs : Option Addr) (cn cc : Nat) (fa ag : Int) (f a : Int) (d : Bool) (bt : Nat) (w0 w : World) (H : List Hp.Blk) (D : World → Prop) (sh : Hp.Sh w0 w ((bt, #[.int .i64 p0, .int .i64 p1, .int .i64 p2, .slice cs cn cc, .int .i64 fa, .int .i64 ag, .int .i64 f, .int .i64 a, .bool d], 41) :: H) D) :
    Calls Try.prog 20 #[.pointer (some ⟨bt, 0, none⟩)] w fun e w' => e = .returned (.int .i64 3) ∧ Hp.Sh w0 w' ((bt, #[.int .i64 p0, .int .i64 p1, .int .i64 p2, .slice cs cn cc, .int .i64 fa, .int .i64 ag, .int .i64 f, .int .i64 a, .bool true], 41) :: H) D := by
  go_enter Try.func20, Try.ntmps20
  have F := sh.facts; (try simp only [Hp.Facts, Hp.CellsAt, Nat.reduceAdd, List.cons_append, List.nil_append] at F)
  go_wp2_with (first
      | ((with_reducible refine Hp.wpl_box sh ?_ ?_); exact rfl; clear sh; (try clear F); go_simp; intro b w1 sh; have F := sh.facts; (try simp only [Hp.Facts, Hp.CellsAt, Nat.reduceAdd, List.cons_append, List.nil_append] at F))
      | ((with_reducible refine Hp.wpl_alloc Try.z_health sh ?_ ?_); exact rfl; clear sh; (try clear F); go_simp; intro b w1 sh; have F := sh.facts; (try simp only [Hp.Facts, Hp.CellsAt, Nat.reduceAdd, List.cons_append, List.nil_append] at F))
      | ((with_reducible refine Hp.wpl_alloc Try.z_part sh ?_ ?_); exact rfl; clear sh; (try clear F); go_simp; intro b w1 sh; have F := sh.facts; (try simp only [Hp.Facts, Hp.CellsAt, Nat.reduceAdd, List.cons_append, List.nil_append] at F))
      | ((with_reducible refine Hp.atl_store ?_ ?_); exact rfl; (first | refine Hp.wp_store 0 sh rfl rfl rfl rfl (by kernel_rfl) (Nat.le_of_ble_eq_true rfl) rfl ?_ | refine Hp.wp_store 1 sh rfl rfl rfl rfl (by kernel_rfl) (Nat.le_of_ble_eq_true rfl) rfl ?_ | refine Hp.wp_store 2 sh rfl rfl rfl rfl (by kernel_rfl) (Nat.le_of_ble_eq_true rfl) rfl ?_ | refine Hp.wp_store 3 sh rfl rfl rfl rfl (by kernel_rfl) (Nat.le_of_ble_eq_true rfl) rfl ?_ | refine Hp.wp_store 4 sh rfl rfl rfl rfl (by kernel_rfl) (Nat.le_of_ble_eq_true rfl) rfl ?_ | refine Hp.wp_store 5 sh rfl rfl rfl rfl (by kernel_rfl) (Nat.le_of_ble_eq_true rfl) rfl ?_ | refine Hp.wp_store 6 sh rfl rfl rfl rfl (by kernel_rfl) (Nat.le_of_ble_eq_true rfl) rfl ?_); clear sh; (try clear F); go_simp; intro w1 sh; have F := sh.facts; (try simp only [Hp.Facts, Hp.CellsAt, Nat.reduceAdd, List.cons_append, List.nil_append] at F))
      | fail)
  go_ret
  exact ⟨rfl, sh⟩

set_option maxHeartbeats 2000000 in
set_option maxRecDepth 100000 in
theorem hagain (p0 p1 p2 : Int) (cs : Option Addr) (cn cc : Nat) (fa ag : Int) (f a : Int) (d : Bool) (bt : Nat) (w0 w : World) (H : List Hp.Blk) (D : World → Prop) (sh : Hp.Sh w0 w ((bt, #[.int .i64 p0, .int .i64 p1, .int .i64 p2, .slice cs cn cc, .int .i64 fa, .int .i64 ag, .int .i64 f, .int .i64 a, .bool d], 41) :: H) D) (ha : 0 ≤ a) (ha2 : a ≤ 100) (hg : 0 ≤ ag) (hlt : a < ag) :
    Calls Try.prog 19 #[.pointer (some ⟨bt, 0, none⟩)] w fun e w' => e = .returned (.int .i64 2) ∧ Hp.Sh w0 w' ((bt, #[.int .i64 p0, .int .i64 p1, .int .i64 p2, .slice cs cn cc, .int .i64 fa, .int .i64 ag, .int .i64 f, .int .i64 (a + 1), .bool d], 41) :: H) D := by
  go_enter Try.func19, Try.ntmps19
  have F := sh.facts; (try simp only [Hp.Facts, Hp.CellsAt, Nat.reduceAdd, List.cons_append, List.nil_append] at F)
  go_wp2_with (first
      | ((with_reducible refine Hp.wpl_box sh ?_ ?_); exact rfl; clear sh; (try clear F); go_simp; intro b w1 sh; have F := sh.facts; (try simp only [Hp.Facts, Hp.CellsAt, Nat.reduceAdd, List.cons_append, List.nil_append] at F))
      | ((with_reducible refine Hp.wpl_alloc Try.z_health sh ?_ ?_); exact rfl; clear sh; (try clear F); go_simp; intro b w1 sh; have F := sh.facts; (try simp only [Hp.Facts, Hp.CellsAt, Nat.reduceAdd, List.cons_append, List.nil_append] at F))
      | ((with_reducible refine Hp.wpl_alloc Try.z_part sh ?_ ?_); exact rfl; clear sh; (try clear F); go_simp; intro b w1 sh; have F := sh.facts; (try simp only [Hp.Facts, Hp.CellsAt, Nat.reduceAdd, List.cons_append, List.nil_append] at F))
      | ((with_reducible refine Hp.atl_store ?_ ?_); exact rfl; (first | refine Hp.wp_store 0 sh rfl rfl rfl rfl (by kernel_rfl) (Nat.le_of_ble_eq_true rfl) rfl ?_ | refine Hp.wp_store 1 sh rfl rfl rfl rfl (by kernel_rfl) (Nat.le_of_ble_eq_true rfl) rfl ?_ | refine Hp.wp_store 2 sh rfl rfl rfl rfl (by kernel_rfl) (Nat.le_of_ble_eq_true rfl) rfl ?_ | refine Hp.wp_store 3 sh rfl rfl rfl rfl (by kernel_rfl) (Nat.le_of_ble_eq_true rfl) rfl ?_ | refine Hp.wp_store 4 sh rfl rfl rfl rfl (by kernel_rfl) (Nat.le_of_ble_eq_true rfl) rfl ?_ | refine Hp.wp_store 5 sh rfl rfl rfl rfl (by kernel_rfl) (Nat.le_of_ble_eq_true rfl) rfl ?_ | refine Hp.wp_store 6 sh rfl rfl rfl rfl (by kernel_rfl) (Nat.le_of_ble_eq_true rfl) rfl ?_); clear sh; (try clear F); go_simp; intro w1 sh; have F := sh.facts; (try simp only [Hp.Facts, Hp.CellsAt, Nat.reduceAdd, List.cons_append, List.nil_append] at F))
      | fail)
  refine Hp.region_sh (by kernel_rfl) sh ?_; clear sh F; intro w1 sh; have F := sh.facts; (try simp only [Hp.Facts, Hp.CellsAt, Nat.reduceAdd, List.cons_append, List.nil_append] at F)
  refine Hp.take (i := 0) (oi := ⟨some 3, Op.move (Operand.tmp 0), _, _, _, none⟩) (v := ?_) rfl (by kernel_rfl) (by kernel_rfl) (by kernel_rfl) (fun _ _ _ h => h) (by rfl) ⟨sh.facts, sh.data⟩ ?_ ?_
  rotate_left
  · intro w' hh
    clear hh; go_simp
    try with_reducible rfl
  (try simp only [Act.put, List.setIfInBounds_toArray, List.set_cons_zero, List.set_cons_succ])
  refine Hp.take (i := 1) (oi := ⟨some 4, Op.nilCheck (Operand.tmp 3), _, _, _, none⟩) (v := ?_) rfl (by kernel_rfl) (by kernel_rfl) (by kernel_rfl) (fun _ _ _ h => h) (by rfl) ⟨sh.facts, sh.data⟩ ?_ ?_
  rotate_left
  · intro w' hh
    clear hh; go_simp
    try with_reducible rfl
  (try simp only [Act.put, List.setIfInBounds_toArray, List.set_cons_zero, List.set_cons_succ])
  refine Hp.take (i := 2) (oi := ⟨some 5, Op.fieldAddr 41 (Operand.tmp 4) 1, _, _, _, none⟩) (v := ?_) rfl (by kernel_rfl) (by kernel_rfl) (by kernel_rfl) (fun _ _ _ h => h) (by rfl) ⟨sh.facts, sh.data⟩ ?_ ?_
  rotate_left
  · intro w' hh
    clear hh; go_simp
    try with_reducible rfl
  (try simp only [Act.put, List.setIfInBounds_toArray, List.set_cons_zero, List.set_cons_succ])
  refine Hp.take (i := 3) (oi := ⟨some 6, Op.fieldAddr 26 (Operand.tmp 5) 1, _, _, _, none⟩) (v := ?_) rfl (by kernel_rfl) (by kernel_rfl) (by kernel_rfl) (fun _ _ _ h => h) (by rfl) ⟨sh.facts, sh.data⟩ ?_ ?_
  rotate_left
  · intro w' hh
    clear hh; go_simp
    try with_reducible rfl
  (try simp only [Act.put, List.setIfInBounds_toArray, List.set_cons_zero, List.set_cons_succ])
  refine Hp.take (i := 4) (oi := ⟨some 7, Op.load 3 (Operand.tmp 6), _, _, _, none⟩) (v := ?_) rfl (by kernel_rfl) (by kernel_rfl) (by kernel_rfl) (fun _ _ _ h => h) (by rfl) ⟨sh.facts, sh.data⟩ ?_ ?_
  rotate_left
  · intro w' hh
    have F' := hh.1; have hd := hh.2; clear hh; (try simp only [Hp.Facts, Hp.CellsAt, Nat.reduceAdd, List.cons_append, List.nil_append] at F'); skip
    go_simp
    try with_reducible rfl
  (try simp only [Act.put, List.setIfInBounds_toArray, List.set_cons_zero, List.set_cons_succ])
  refine Hp.take (i := 5) (oi := ⟨some 8, Op.move (Operand.tmp 0), _, _, _, none⟩) (v := ?_) rfl (by kernel_rfl) (by kernel_rfl) (by kernel_rfl) (fun _ _ _ h => h) (by rfl) ⟨sh.facts, sh.data⟩ ?_ ?_
  rotate_left
  · intro w' hh
    clear hh; go_simp
    try with_reducible rfl
  (try simp only [Act.put, List.setIfInBounds_toArray, List.set_cons_zero, List.set_cons_succ])
  refine Hp.take (i := 6) (oi := ⟨some 9, Op.nilCheck (Operand.tmp 8), _, _, _, none⟩) (v := ?_) rfl (by kernel_rfl) (by kernel_rfl) (by kernel_rfl) (fun _ _ _ h => h) (by rfl) ⟨sh.facts, sh.data⟩ ?_ ?_
  rotate_left
  · intro w' hh
    clear hh; go_simp
    try with_reducible rfl
  (try simp only [Act.put, List.setIfInBounds_toArray, List.set_cons_zero, List.set_cons_succ])
  refine Hp.take (i := 7) (oi := ⟨some 10, Op.fieldAddr 41 (Operand.tmp 9) 0, _, _, _, none⟩) (v := ?_) rfl (by kernel_rfl) (by kernel_rfl) (by kernel_rfl) (fun _ _ _ h => h) (by rfl) ⟨sh.facts, sh.data⟩ ?_ ?_
  rotate_left
  · intro w' hh
    clear hh; go_simp
    try with_reducible rfl
  (try simp only [Act.put, List.setIfInBounds_toArray, List.set_cons_zero, List.set_cons_succ])
  refine Hp.take (i := 8) (oi := ⟨some 11, Op.fieldAddr 24 (Operand.tmp 10) 5, _, _, _, none⟩) (v := ?_) rfl (by kernel_rfl) (by kernel_rfl) (by kernel_rfl) (fun _ _ _ h => h) (by rfl) ⟨sh.facts, sh.data⟩ ?_ ?_
  rotate_left
  · intro w' hh
    clear hh; go_simp
    try with_reducible rfl
  (try simp only [Act.put, List.setIfInBounds_toArray, List.set_cons_zero, List.set_cons_succ])
  refine Hp.take (i := 9) (oi := ⟨some 12, Op.load 3 (Operand.tmp 11), _, _, _, none⟩) (v := ?_) rfl (by kernel_rfl) (by kernel_rfl) (by kernel_rfl) (fun _ _ _ h => h) (by rfl) ⟨sh.facts, sh.data⟩ ?_ ?_
  rotate_left
  · intro w' hh
    have F' := hh.1; have hd := hh.2; clear hh; (try simp only [Hp.Facts, Hp.CellsAt, Nat.reduceAdd, List.cons_append, List.nil_append] at F'); skip
    go_simp
    try with_reducible rfl
  (try simp only [Act.put, List.setIfInBounds_toArray, List.set_cons_zero, List.set_cons_succ])
  refine Hp.take (i := 10) (oi := ⟨some 13, Op.binOp BinOp.geq 3 (Operand.tmp 7) (Operand.tmp 12) 3, _, _, _, none⟩) (v := ?_) rfl (by kernel_rfl) (by kernel_rfl) (by kernel_rfl) (fun _ _ _ h => h) (by rfl) ⟨sh.facts, sh.data⟩ ?_ ?_
  rotate_left
  · intro w' hh
    clear hh; go_simp
    try with_reducible rfl
  (try simp only [Act.put, List.setIfInBounds_toArray, List.set_cons_zero, List.set_cons_succ])
  refine wpAnyH_done (by kernel_rfl) ?_ _
  skip
  go_wp2_with (first
      | ((with_reducible refine Hp.wpl_box sh ?_ ?_); exact rfl; clear sh; (try clear F); go_simp; intro b w1 sh; have F := sh.facts; (try simp only [Hp.Facts, Hp.CellsAt, Nat.reduceAdd, List.cons_append, List.nil_append] at F))
      | ((with_reducible refine Hp.wpl_alloc Try.z_health sh ?_ ?_); exact rfl; clear sh; (try clear F); go_simp; intro b w1 sh; have F := sh.facts; (try simp only [Hp.Facts, Hp.CellsAt, Nat.reduceAdd, List.cons_append, List.nil_append] at F))
      | ((with_reducible refine Hp.wpl_alloc Try.z_part sh ?_ ?_); exact rfl; clear sh; (try clear F); go_simp; intro b w1 sh; have F := sh.facts; (try simp only [Hp.Facts, Hp.CellsAt, Nat.reduceAdd, List.cons_append, List.nil_append] at F))
      | ((with_reducible refine Hp.atl_store ?_ ?_); exact rfl; (first | refine Hp.wp_store 0 sh rfl rfl rfl rfl (by kernel_rfl) (Nat.le_of_ble_eq_true rfl) rfl ?_ | refine Hp.wp_store 1 sh rfl rfl rfl rfl (by kernel_rfl) (Nat.le_of_ble_eq_true rfl) rfl ?_ | refine Hp.wp_store 2 sh rfl rfl rfl rfl (by kernel_rfl) (Nat.le_of_ble_eq_true rfl) rfl ?_ | refine Hp.wp_store 3 sh rfl rfl rfl rfl (by kernel_rfl) (Nat.le_of_ble_eq_true rfl) rfl ?_ | refine Hp.wp_store 4 sh rfl rfl rfl rfl (by kernel_rfl) (Nat.le_of_ble_eq_true rfl) rfl ?_ | refine Hp.wp_store 5 sh rfl rfl rfl rfl (by kernel_rfl) (Nat.le_of_ble_eq_true rfl) rfl ?_ | refine Hp.wp_store 6 sh rfl rfl rfl rfl (by kernel_rfl) (Nat.le_of_ble_eq_true rfl) rfl ?_); clear sh; (try clear F); go_simp; intro w1 sh; have F := sh.facts; (try simp only [Hp.Facts, Hp.CellsAt, Nat.reduceAdd, List.cons_append, List.nil_append] at F))
      | fail)
  go_ret
  exact ⟨rfl, sh⟩

end Go.Proofs.Ytbebcbbjbnohnaa
