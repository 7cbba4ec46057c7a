/-
  The walks of package health and of its reference: Is, the deeds, Tell, Left.
-/
import Derived.Test.YtbebcbbjbnohnaaRows
import Derived.Test.YtbebcbbjbnohnaaHeap
namespace Go.Proofs.Ytbebcbbjbnohnaa
open Go.RowKit
set_option linter.unusedVariables false
set_option linter.unusedSimpArgs false

theorem ret_bool {a b : Bool} (h : a = b) : Ending.returned (.bool a) = .returned (.bool b) := by rw [h]
theorem ret_i64 {a b : Int} (h : a = b) : Ending.returned (.int .i64 a) = .returned (.int .i64 b) := by rw [h]
theorem Try.z_health (W : World) : (zeroValue 26).run Try.prog W = .ok (.agg #[.int .i64 0, .int .i64 0, .bool false]) W := by kernel_rfl
theorem Try.z_part (W : World) : (zeroValue 24).run Try.prog W = .ok (.agg #[.int .i64 0, .int .i64 0, .int .i64 0, .slice none 0 0, .int .i64 0, .int .i64 0]) W := by kernel_rfl
theorem Try.i_int : (Try.prog.info? 3).map (fun i => (i.zero, i.size, i.bytes)) = some (some (.int .i64 0), 1, 8) := by kernel_rfl

namespace HeaP
def ok (fa ag f a : Int) : Bool := decide (1 ≤ fa ∧ fa ≤ 3 ∧ 0 ≤ ag ∧ ag ≤ 100 ∧ 0 ≤ f ∧ f ≤ 4294967295 ∧ 0 ≤ a ∧ a ≤ ag ∧ a ≤ f)
theorem ok_iff {fa ag f a : Int} : ok fa ag f a = true ↔ (1 ≤ fa ∧ fa ≤ 3 ∧ 0 ≤ ag ∧ ag ≤ 100 ∧ 0 ≤ f ∧ f ≤ 4294967295 ∧ 0 ≤ a ∧ a ≤ ag ∧ a ≤ f) := by simp [ok]
theorem ok_no {fa ag f a : Int} (h : ¬ (1 ≤ fa ∧ fa ≤ 3 ∧ 0 ≤ ag ∧ ag ≤ 100 ∧ 0 ≤ f ∧ f ≤ 4294967295 ∧ 0 ≤ a ∧ a ≤ ag ∧ a ≤ f)) : ok fa ag f a = false := by simp only [ok, decide_eq_false_iff_not]; exact h
abbrev HT := Int × Int × Bool
def up (f : Int) : Int := if 4294967295 < f + 1 then 4294967295 else f + 1
/-- A fault: the health behind it, what is done, and the error. -/
def tell (fa ag : Int) (h : HT) : HT × Int × Int :=
  if ok fa ag h.1 h.2.1 = false then ((0, 0, false), 0, 1) else if h.2.2 = true then ((0, 0, false), 0, 13)
  else if fa = 1 then ((HeaP.up h.1, h.2.1, false), 1, 0)
  else if fa = 2 ∧ h.2.1 < ag then ((HeaP.up h.1, h.2.1 + 1, false), 2, 0)
  else ((HeaP.up h.1, h.2.1, true), 3, 0)
def hv (h : HT) : Value := .agg #[.int .i64 h.1, .int .i64 h.2.1, .bool h.2.2]
def tv (r : HT × Int × Int) : Value := .tuple #[.agg #[.int .i64 r.1.1, .int .i64 r.1.2.1, .bool r.1.2.2], .int .i64 r.2.1, .int .i64 r.2.2]
end HeaP


set_option maxHeartbeats 2000000 in
set_option maxRecDepth 100000 in
theorem his (p0 p1 p2 : Int) (cs : Option Addr) (cn cc : Nat) (fa ag : Int) (f a : Int) (d : Bool) (w : World) (hfa : -9223372036854775808 ≤ fa ∧ fa ≤ 9223372036854775807) (hag : -9223372036854775808 ≤ ag ∧ ag ≤ 9223372036854775807) (hf : -9223372036854775808 ≤ f ∧ f ≤ 9223372036854775807) (ha : -9223372036854775808 ≤ a ∧ a ≤ 9223372036854775807) :
    Calls Try.prog 10 #[.agg #[.int .i64 p0, .int .i64 p1, .int .i64 p2, .slice cs cn cc, .int .i64 fa, .int .i64 ag], .agg #[.int .i64 f, .int .i64 a, .bool d]] w fun e w' => e = .returned (.bool (HeaP.ok fa ag f a)) ∧ Below w.heap.size w w' := by
  have sh : Hp.Sh w w [] (fun _ => True) := Hp.Sh.start (fun _ _ => trivial)
  go_enter Try.func10, Try.ntmps10
  go_wp2_with (first
      | ((with_reducible refine Hp.wpl_box sh ?_ ?_); exact rfl; clear sh; (try clear F); go_simp; intro b w1 sh; have F := sh.facts; (try simp only [Hp.Facts, Hp.CellsAt, Nat.reduceAdd, List.cons_append, List.nil_append] at F))
      | ((with_reducible refine Hp.wpl_alloc Try.z_health sh ?_ ?_); exact rfl; clear sh; (try clear F); go_simp; intro b w1 sh; have F := sh.facts; (try simp only [Hp.Facts, Hp.CellsAt, Nat.reduceAdd, List.cons_append, List.nil_append] at F))
      | ((with_reducible refine Hp.wpl_alloc Try.z_part sh ?_ ?_); exact rfl; clear sh; (try clear F); go_simp; intro b w1 sh; have F := sh.facts; (try simp only [Hp.Facts, Hp.CellsAt, Nat.reduceAdd, List.cons_append, List.nil_append] at F))
      | ((with_reducible refine Hp.atl_store ?_ ?_); exact rfl; (first | refine Hp.wp_store 0 sh rfl rfl rfl rfl (by kernel_rfl) (Nat.le_of_ble_eq_true rfl) rfl ?_ | refine Hp.wp_store 1 sh rfl rfl rfl rfl (by kernel_rfl) (Nat.le_of_ble_eq_true rfl) rfl ?_ | refine Hp.wp_store 2 sh rfl rfl rfl rfl (by kernel_rfl) (Nat.le_of_ble_eq_true rfl) rfl ?_ | refine Hp.wp_store 3 sh rfl rfl rfl rfl (by kernel_rfl) (Nat.le_of_ble_eq_true rfl) rfl ?_ | refine Hp.wp_store 4 sh rfl rfl rfl rfl (by kernel_rfl) (Nat.le_of_ble_eq_true rfl) rfl ?_ | refine Hp.wp_store 5 sh rfl rfl rfl rfl (by kernel_rfl) (Nat.le_of_ble_eq_true rfl) rfl ?_ | refine Hp.wp_store 6 sh rfl rfl rfl rfl (by kernel_rfl) (Nat.le_of_ble_eq_true rfl) rfl ?_); clear sh; (try clear F); go_simp; intro w1 sh; have F := sh.facts; (try simp only [Hp.Facts, Hp.CellsAt, Nat.reduceAdd, List.cons_append, List.nil_append] at F))
      | fail)
  all_goals go_ret
  all_goals refine ⟨ret_bool ?_, sh.below⟩
  all_goals rw [Bool.eq_iff_iff, HeaP.ok_iff]
  all_goals simp
  all_goals omega

set_option maxHeartbeats 2000000 in
set_option maxRecDepth 100000 in
theorem hisR (p0 p1 p2 : Int) (cs : Option Addr) (cn cc : Nat) (fa ag : Int) (f a : Int) (d : Bool) (w : World) (hfa : -9223372036854775808 ≤ fa ∧ fa ≤ 9223372036854775807) (hag : -9223372036854775808 ≤ ag ∧ ag ≤ 9223372036854775807) (hf : -9223372036854775808 ≤ f ∧ f ≤ 9223372036854775807) (ha : -9223372036854775808 ≤ a ∧ a ≤ 9223372036854775807) :
    Calls Try.prog 11 #[.agg #[.int .i64 p0, .int .i64 p1, .int .i64 p2, .slice cs cn cc, .int .i64 fa, .int .i64 ag], .agg #[.int .i64 f, .int .i64 a, .bool d]] w fun e w' => e = .returned (.bool (HeaP.ok fa ag f a)) ∧ Below w.heap.size w w' := by
  have sh : Hp.Sh w w [] (fun _ => True) := Hp.Sh.start (fun _ _ => trivial)
  go_enter Try.func11, Try.ntmps11
  go_wp2_with (first
      | ((with_reducible refine Hp.wpl_box sh ?_ ?_); exact rfl; clear sh; (try clear F); go_simp; intro b w1 sh; have F := sh.facts; (try simp only [Hp.Facts, Hp.CellsAt, Nat.reduceAdd, List.cons_append, List.nil_append] at F))
      | ((with_reducible refine Hp.wpl_alloc Try.z_health sh ?_ ?_); exact rfl; clear sh; (try clear F); go_simp; intro b w1 sh; have F := sh.facts; (try simp only [Hp.Facts, Hp.CellsAt, Nat.reduceAdd, List.cons_append, List.nil_append] at F))
      | ((with_reducible refine Hp.wpl_alloc Try.z_part sh ?_ ?_); exact rfl; clear sh; (try clear F); go_simp; intro b w1 sh; have F := sh.facts; (try simp only [Hp.Facts, Hp.CellsAt, Nat.reduceAdd, List.cons_append, List.nil_append] at F))
      | ((with_reducible refine Hp.atl_store ?_ ?_); exact rfl; (first | refine Hp.wp_store 0 sh rfl rfl rfl rfl (by kernel_rfl) (Nat.le_of_ble_eq_true rfl) rfl ?_ | refine Hp.wp_store 1 sh rfl rfl rfl rfl (by kernel_rfl) (Nat.le_of_ble_eq_true rfl) rfl ?_ | refine Hp.wp_store 2 sh rfl rfl rfl rfl (by kernel_rfl) (Nat.le_of_ble_eq_true rfl) rfl ?_ | refine Hp.wp_store 3 sh rfl rfl rfl rfl (by kernel_rfl) (Nat.le_of_ble_eq_true rfl) rfl ?_ | refine Hp.wp_store 4 sh rfl rfl rfl rfl (by kernel_rfl) (Nat.le_of_ble_eq_true rfl) rfl ?_ | refine Hp.wp_store 5 sh rfl rfl rfl rfl (by kernel_rfl) (Nat.le_of_ble_eq_true rfl) rfl ?_ | refine Hp.wp_store 6 sh rfl rfl rfl rfl (by kernel_rfl) (Nat.le_of_ble_eq_true rfl) rfl ?_); clear sh; (try clear F); go_simp; intro w1 sh; have F := sh.facts; (try simp only [Hp.Facts, Hp.CellsAt, Nat.reduceAdd, List.cons_append, List.nil_append] at F))
      | fail)
  all_goals go_ret
  all_goals refine ⟨ret_bool ?_, sh.below⟩
  all_goals rw [Bool.eq_iff_iff, HeaP.ok_iff]
  all_goals simp
  all_goals omega

end Go.Proofs.Ytbebcbbjbnohnaa
