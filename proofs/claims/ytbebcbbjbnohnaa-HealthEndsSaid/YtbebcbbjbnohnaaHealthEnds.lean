/-
  The walks of the laws of layer 25: HealthEnds.
-/
import Derived.Test.YtbebcbbjbnohnaaHealth9
namespace Go.Proofs.Ytbebcbbjbnohnaa
open Go.RowKit
set_option linter.unusedVariables false
set_option linter.unusedSimpArgs false


namespace HeaP
theorem up_small {x : Int} (h : x ≤ 1000) : up x = x + 1 := by unfold up; rw [if_neg (by omega)]
theorem ok_mk {fa ag f a : Int} (h : 1 ≤ fa ∧ fa ≤ 3 ∧ 0 ≤ ag ∧ ag ≤ 100 ∧ 0 ≤ f ∧ f ≤ 4294967295 ∧ 0 ≤ a ∧ a ≤ ag ∧ a ≤ f) : ok fa ag f a = true := ok_iff.2 h
theorem all1 {ag : Int} (h0 : 0 ≤ ag) (h1 : ag ≤ 100) (k : Nat) (hk : k ≤ 1001) : all 1 ag k = (((k : Int), 0, false), List.replicate k 1) := by
  induction k with
  | zero => rfl
  | succ k ih =>
    have ht : tell 1 ag ((k : Int), 0, false) = (((k : Int) + 1, 0, false), 1, 0) := by
      rw [← up_small (x := (k : Int)) (by omega)]
      simp [tell, ok_mk (fa := 1) (ag := ag) (f := k) (a := 0) (by omega)]
    rw [all_step (ih (by omega)) ht, List.replicate_succ']
    simp
theorem all2 {ag : Int} (h0 : 0 ≤ ag) (h1 : ag ≤ 100) (k : Nat) (hk : (k : Int) ≤ ag) : all 2 ag k = (((k : Int), (k : Int), false), List.replicate k 2) := by
  induction k with
  | zero => rfl
  | succ k ih =>
    have ht : tell 2 ag ((k : Int), (k : Int), false) = (((k : Int) + 1, (k : Int) + 1, false), 2, 0) := by
      rw [← up_small (x := (k : Int)) (by omega)]
      have h3 : (k : Int) < ag := by omega
      simp [tell, ok_mk (fa := 2) (ag := ag) (f := k) (a := k) (by omega), h3]
      rw [up_small (by omega)]
    rw [all_step (ih (by omega)) ht, List.replicate_succ']
    simp
theorem all2d {q : Nat} (h1 : q ≤ 100) (k : Nat) (hk : q < k) : all 2 (q : Int) k = (((q : Int) + 1, (q : Int), true), List.replicate q 2 ++ [3]) := by
  have hx := all2 (ag := q) (by omega) (by omega) q (by omega)
  have ht : tell 2 (q : Int) ((q : Int), (q : Int), false) = (((q : Int) + 1, (q : Int), true), 3, 0) := by
    rw [← up_small (x := (q : Int)) (by omega)]
    simp [tell, ok_mk (fa := 2) (ag := q) (f := q) (a := q) (by omega)]
  have h2 := all_step hx ht
  have ho : ok 2 (q : Int) ((q : Int) + 1) (q : Int) = true := ok_mk (by omega)
  exact all_end h2 (show tell 2 (q : Int) ((q : Int) + 1, (q : Int), true) = ((0, 0, false), 0, 13) by simp [tell, ho]) (by decide) (by omega)
theorem all3 {ag : Int} (h0 : 0 ≤ ag) (h1 : ag ≤ 100) (k : Nat) (hk : 0 < k) : all 3 ag k = ((1, 0, true), [3]) := by
  have ht : tell 3 ag (0, 0, false) = ((1, 0, true), 3, 0) := by
    have := up_small (x := 0) (by omega)
    simp [tell, ok_mk (fa := 3) (ag := ag) (f := 0) (a := 0) (by omega), this]
  have h2 := all_step (k := 0) (fa := 3) (ag := ag) rfl ht
  have ho : ok 3 ag 1 0 = true := ok_mk (by omega)
  exact all_end h2 (show tell 3 ag (1, 0, true) = ((0, 0, false), 0, 13) by simp [tell, ho]) (by decide) (by omega)
def AllT (f a : Int) (d : Bool) (n : Nat) (l : List Int) (w0 : World) (H : List Hp.Blk) (D : World → Prop) (e : Ending) (w' : World) : Prop := ∃ s c, e = .returned (.tuple #[.agg #[.int .i64 f, .int .i64 a, .bool d], .slice s n c]) ∧ Hp.Sh w0 w' H (fun W => Hp.RdV W s (nums l) ∧ D W)
theorem AllP.sht {x : HT × List Int} {w0 w w' : World} {e : Ending} {H : List Hp.Blk} {D : World → Prop} (sh : Hp.Sh w0 w H D) (h : AllP x w e w') {f a : Int} {d : Bool} {l : List Int} {n : Nat} (hx : x = ((f, a, d), l)) (hn : l.length = n) : AllT f a d n l w0 H D e w' := by
  subst hx hn
  exact AllP.sh sh h
end HeaP

set_option maxHeartbeats 4000000 in
set_option maxRecDepth 100000 in
theorem ends1 (p0 p1 p2 : Int) (cs : Option Addr) (cn cc : Nat) (ag : Int) (r : Nat) (h0 : 0 ≤ ag) (h1 : ag ≤ 100) (hr : r ≤ 1000) (w : World) :
    Calls Try.prog 5 #[.agg #[.int .i64 p0, .int .i64 p1, .int .i64 p2, .slice cs cn cc, .int .i64 1, .int .i64 ag], .int .i64 (r : Int)] w fun e w' => e = .returned (.bool true) ∧ Below w.heap.size w w' := by
  have sh : Hp.Sh w w [] (fun _ => True) := Hp.Sh.start (fun _ _ => trivial)
  have HH := Lib.hid (fun W => hhealthy W)
  have HA := Lib.hid (fun w0 W H D (sh : Hp.Sh w0 W H D) => (hall p0 p1 p2 cs cn cc 1 ag (r : Int) W (by omega) (by omega) (by omega)).mono fun e w' h => HeaP.AllP.sht sh h (f := (r : Int)) (a := 0) (d := false) (l := List.replicate r 1) (n := r) (by rw [show (min (r : Int) 1000).toNat = r by omega]; exact HeaP.all1 h0 h1 r (by omega)) (by simp))
  have HI := Lib.hid (fun W => his p0 p1 p2 cs cn cc 1 ag 0 0 false W (by omega) (by omega) (by omega) (by omega))
  rw [HeaP.ok_mk (by omega)] at HI
  have HJ := Lib.hid (fun W => his p0 p1 p2 cs cn cc 1 ag ((r : Int)) (0) false W (by omega) (by omega) (by omega) (by omega))
  rw [HeaP.ok_mk (by omega)] at HJ
  have hm1 : ¬ (1000 < (r : Int)) := by omega
  have hm2 : ¬ ((r : Int) < 0) := by omega
  go_enter Try.func5, Try.ntmps5
  have tok_bp : True := trivial
  go_wp2_with (first
      | ((have tok := tok_bp); clear tok tok_bp; (first | (with_reducible refine Hp.wpl_box sh ?_ ?_) | (with_reducible refine Hp.wpl_alloc Try.z_health sh ?_ ?_) | (with_reducible refine Hp.wpl_alloc Try.z_part sh ?_ ?_)); exact rfl; clear sh; (try clear F); go_simp; intro bp w1 sh; have F := sh.facts; (try simp only [Hp.Facts, Hp.CellsAt, Nat.reduceAdd, List.cons_append, List.nil_append] at F))
      | ((with_reducible refine Hp.wpl_box sh ?_ ?_); exact rfl; clear sh; (try clear F); go_simp; intro b w1 sh; have F := sh.facts; (try simp only [Hp.Facts, Hp.CellsAt, Nat.reduceAdd, List.cons_append, List.nil_append] at F))
      | ((with_reducible refine Hp.wpl_alloc Try.z_health sh ?_ ?_); exact rfl; clear sh; (try clear F); go_simp; intro b w1 sh; have F := sh.facts; (try simp only [Hp.Facts, Hp.CellsAt, Nat.reduceAdd, List.cons_append, List.nil_append] at F))
      | ((with_reducible refine Hp.wpl_alloc Try.z_part sh ?_ ?_); exact rfl; clear sh; (try clear F); go_simp; intro b w1 sh; have F := sh.facts; (try simp only [Hp.Facts, Hp.CellsAt, Nat.reduceAdd, List.cons_append, List.nil_append] at F))
      | ((with_reducible refine Hp.atl_store ?_ ?_); exact rfl; (first | refine Hp.wp_store 0 sh rfl rfl rfl rfl (by kernel_rfl) (Nat.le_of_ble_eq_true rfl) rfl ?_ | refine Hp.wp_store 1 sh rfl rfl rfl rfl (by kernel_rfl) (Nat.le_of_ble_eq_true rfl) rfl ?_ | refine Hp.wp_store 2 sh rfl rfl rfl rfl (by kernel_rfl) (Nat.le_of_ble_eq_true rfl) rfl ?_ | refine Hp.wp_store 3 sh rfl rfl rfl rfl (by kernel_rfl) (Nat.le_of_ble_eq_true rfl) rfl ?_ | refine Hp.wp_store 4 sh rfl rfl rfl rfl (by kernel_rfl) (Nat.le_of_ble_eq_true rfl) rfl ?_ | refine Hp.wp_store 5 sh rfl rfl rfl rfl (by kernel_rfl) (Nat.le_of_ble_eq_true rfl) rfl ?_ | refine Hp.wp_store 6 sh rfl rfl rfl rfl (by kernel_rfl) (Nat.le_of_ble_eq_true rfl) rfl ?_); clear sh; (try clear F); go_simp; intro w1 sh; have F := sh.facts; (try simp only [Hp.Facts, Hp.CellsAt, Nat.reduceAdd, List.cons_append, List.nil_append] at F))
      | fail)
  go_fit (HA.out w _ _ _ sh)
  clear sh; (try clear F)
  rintro e w1 ⟨s, c, rfl, sh⟩
  have F := sh.facts; (try simp only [Hp.Facts, Hp.CellsAt, Nat.reduceAdd, List.cons_append, List.nil_append] at F)
  have tok_bh : True := trivial
  go_wp2_with (first
      | ((have tok := tok_bh); clear tok tok_bh; (first | (with_reducible refine Hp.wpl_box sh ?_ ?_) | (with_reducible refine Hp.wpl_alloc Try.z_health sh ?_ ?_) | (with_reducible refine Hp.wpl_alloc Try.z_part sh ?_ ?_)); exact rfl; clear sh; (try clear F); go_simp; intro bh w1 sh; have F := sh.facts; (try simp only [Hp.Facts, Hp.CellsAt, Nat.reduceAdd, List.cons_append, List.nil_append] at F))
      | ((with_reducible refine Hp.wpl_box sh ?_ ?_); exact rfl; clear sh; (try clear F); go_simp; intro b w1 sh; have F := sh.facts; (try simp only [Hp.Facts, Hp.CellsAt, Nat.reduceAdd, List.cons_append, List.nil_append] at F))
      | ((with_reducible refine Hp.wpl_alloc Try.z_health sh ?_ ?_); exact rfl; clear sh; (try clear F); go_simp; intro b w1 sh; have F := sh.facts; (try simp only [Hp.Facts, Hp.CellsAt, Nat.reduceAdd, List.cons_append, List.nil_append] at F))
      | ((with_reducible refine Hp.wpl_alloc Try.z_part sh ?_ ?_); exact rfl; clear sh; (try clear F); go_simp; intro b w1 sh; have F := sh.facts; (try simp only [Hp.Facts, Hp.CellsAt, Nat.reduceAdd, List.cons_append, List.nil_append] at F))
      | ((with_reducible refine Hp.atl_store ?_ ?_); exact rfl; (first | refine Hp.wp_store 0 sh rfl rfl rfl rfl (by kernel_rfl) (Nat.le_of_ble_eq_true rfl) rfl ?_ | refine Hp.wp_store 1 sh rfl rfl rfl rfl (by kernel_rfl) (Nat.le_of_ble_eq_true rfl) rfl ?_ | refine Hp.wp_store 2 sh rfl rfl rfl rfl (by kernel_rfl) (Nat.le_of_ble_eq_true rfl) rfl ?_ | refine Hp.wp_store 3 sh rfl rfl rfl rfl (by kernel_rfl) (Nat.le_of_ble_eq_true rfl) rfl ?_ | refine Hp.wp_store 4 sh rfl rfl rfl rfl (by kernel_rfl) (Nat.le_of_ble_eq_true rfl) rfl ?_ | refine Hp.wp_store 5 sh rfl rfl rfl rfl (by kernel_rfl) (Nat.le_of_ble_eq_true rfl) rfl ?_ | refine Hp.wp_store 6 sh rfl rfl rfl rfl (by kernel_rfl) (Nat.le_of_ble_eq_true rfl) rfl ?_); clear sh; (try clear F); go_simp; intro w1 sh; have F := sh.facts; (try simp only [Hp.Facts, Hp.CellsAt, Nat.reduceAdd, List.cons_append, List.nil_append] at F))
      | fail)
  go_fit (HI.out _)
  rintro e w1 ⟨rfl, hb⟩
  replace sh := sh.call hb; clear hb; (try clear F); have F := sh.facts; (try simp only [Hp.Facts, Hp.CellsAt, Nat.reduceAdd, List.cons_append, List.nil_append] at F)
  go_wp2_with (first
      | ((with_reducible refine Hp.wpl_box sh ?_ ?_); exact rfl; clear sh; (try clear F); go_simp; intro b w1 sh; have F := sh.facts; (try simp only [Hp.Facts, Hp.CellsAt, Nat.reduceAdd, List.cons_append, List.nil_append] at F))
      | ((with_reducible refine Hp.wpl_alloc Try.z_health sh ?_ ?_); exact rfl; clear sh; (try clear F); go_simp; intro b w1 sh; have F := sh.facts; (try simp only [Hp.Facts, Hp.CellsAt, Nat.reduceAdd, List.cons_append, List.nil_append] at F))
      | ((with_reducible refine Hp.wpl_alloc Try.z_part sh ?_ ?_); exact rfl; clear sh; (try clear F); go_simp; intro b w1 sh; have F := sh.facts; (try simp only [Hp.Facts, Hp.CellsAt, Nat.reduceAdd, List.cons_append, List.nil_append] at F))
      | ((with_reducible refine Hp.atl_store ?_ ?_); exact rfl; (first | refine Hp.wp_store 0 sh rfl rfl rfl rfl (by kernel_rfl) (Nat.le_of_ble_eq_true rfl) rfl ?_ | refine Hp.wp_store 1 sh rfl rfl rfl rfl (by kernel_rfl) (Nat.le_of_ble_eq_true rfl) rfl ?_ | refine Hp.wp_store 2 sh rfl rfl rfl rfl (by kernel_rfl) (Nat.le_of_ble_eq_true rfl) rfl ?_ | refine Hp.wp_store 3 sh rfl rfl rfl rfl (by kernel_rfl) (Nat.le_of_ble_eq_true rfl) rfl ?_ | refine Hp.wp_store 4 sh rfl rfl rfl rfl (by kernel_rfl) (Nat.le_of_ble_eq_true rfl) rfl ?_ | refine Hp.wp_store 5 sh rfl rfl rfl rfl (by kernel_rfl) (Nat.le_of_ble_eq_true rfl) rfl ?_ | refine Hp.wp_store 6 sh rfl rfl rfl rfl (by kernel_rfl) (Nat.le_of_ble_eq_true rfl) rfl ?_); clear sh; (try clear F); go_simp; intro w1 sh; have F := sh.facts; (try simp only [Hp.Facts, Hp.CellsAt, Nat.reduceAdd, List.cons_append, List.nil_append] at F))
      | fail)
  go_fit (HJ.out _)
  rintro e w1 ⟨rfl, hb⟩
  replace sh := sh.call hb; clear hb; (try clear F); have F := sh.facts; (try simp only [Hp.Facts, Hp.CellsAt, Nat.reduceAdd, List.cons_append, List.nil_append] at F)
  go_wp2_with (first
      | ((with_reducible refine Hp.wpl_box sh ?_ ?_); exact rfl; clear sh; (try clear F); go_simp; intro b w1 sh; have F := sh.facts; (try simp only [Hp.Facts, Hp.CellsAt, Nat.reduceAdd, List.cons_append, List.nil_append] at F))
      | ((with_reducible refine Hp.wpl_alloc Try.z_health sh ?_ ?_); exact rfl; clear sh; (try clear F); go_simp; intro b w1 sh; have F := sh.facts; (try simp only [Hp.Facts, Hp.CellsAt, Nat.reduceAdd, List.cons_append, List.nil_append] at F))
      | ((with_reducible refine Hp.wpl_alloc Try.z_part sh ?_ ?_); exact rfl; clear sh; (try clear F); go_simp; intro b w1 sh; have F := sh.facts; (try simp only [Hp.Facts, Hp.CellsAt, Nat.reduceAdd, List.cons_append, List.nil_append] at F))
      | ((with_reducible refine Hp.atl_store ?_ ?_); exact rfl; (first | refine Hp.wp_store 0 sh rfl rfl rfl rfl (by kernel_rfl) (Nat.le_of_ble_eq_true rfl) rfl ?_ | refine Hp.wp_store 1 sh rfl rfl rfl rfl (by kernel_rfl) (Nat.le_of_ble_eq_true rfl) rfl ?_ | refine Hp.wp_store 2 sh rfl rfl rfl rfl (by kernel_rfl) (Nat.le_of_ble_eq_true rfl) rfl ?_ | refine Hp.wp_store 3 sh rfl rfl rfl rfl (by kernel_rfl) (Nat.le_of_ble_eq_true rfl) rfl ?_ | refine Hp.wp_store 4 sh rfl rfl rfl rfl (by kernel_rfl) (Nat.le_of_ble_eq_true rfl) rfl ?_ | refine Hp.wp_store 5 sh rfl rfl rfl rfl (by kernel_rfl) (Nat.le_of_ble_eq_true rfl) rfl ?_ | refine Hp.wp_store 6 sh rfl rfl rfl rfl (by kernel_rfl) (Nat.le_of_ble_eq_true rfl) rfl ?_); clear sh; (try clear F); go_simp; intro w1 sh; have F := sh.facts; (try simp only [Hp.Facts, Hp.CellsAt, Nat.reduceAdd, List.cons_append, List.nil_append] at F))
      | fail)
  go_loopw [8, 9] (fun g i wr => ∃ (k g' : Nat), g = .int .i64 g' ∧ i = .int .i64 k ∧ k ≤ r ∧ g' = 0 ∧ Hp.Sh w wr [(bh, #[.int .i64 ((r : Int)), .int .i64 (0), .bool false], 26), (bp, #[.int .i64 p0, .int .i64 p1, .int .i64 p2, .slice cs cn cc, .int .i64 1, .int .i64 ag], 24)] (fun W => Hp.RdV W s (nums (List.replicate r 1)))) (fun _ i _ => r - (intOf i).toNat)
  case atStart => exact ⟨0, 0, rfl, rfl, by omega, by omega, by first | exact sh | exact sh.imp fun W h => h.1⟩
  case round =>
    clear sh F
    obtain ⟨k, g, rfl, rfl, hk, hg, sh⟩ := hrel
    have F := sh.facts; (try simp only [Hp.Facts, Hp.CellsAt, Nat.reduceAdd, List.cons_append, List.nil_append] at F)
    by_cases hlt : k < r
    · have hlI : (k : Int) < ((r : Nat) : Int) := by omega
      obtain ⟨p, rfl, -⟩ := sh.data (by simp [nums]; try omega)
      have hc1 := sh.data.cell k (v := .int .i64 1) (by simp [nums, List.getElem?_replicate]; omega)
      skip
      go_wp2_with (first
          | ((with_reducible refine Hp.wpl_box sh ?_ ?_); exact rfl; clear sh; (try clear F); go_simp; intro b w1 sh; have F := sh.facts; (try simp only [Hp.Facts, Hp.CellsAt, Nat.reduceAdd, List.cons_append, List.nil_append] at F))
          | ((with_reducible refine Hp.wpl_alloc Try.z_health sh ?_ ?_); exact rfl; clear sh; (try clear F); go_simp; intro b w1 sh; have F := sh.facts; (try simp only [Hp.Facts, Hp.CellsAt, Nat.reduceAdd, List.cons_append, List.nil_append] at F))
          | ((with_reducible refine Hp.wpl_alloc Try.z_part sh ?_ ?_); exact rfl; clear sh; (try clear F); go_simp; intro b w1 sh; have F := sh.facts; (try simp only [Hp.Facts, Hp.CellsAt, Nat.reduceAdd, List.cons_append, List.nil_append] at F))
          | ((with_reducible refine Hp.atl_store ?_ ?_); exact rfl; (first | refine Hp.wp_store 0 sh rfl rfl rfl rfl (by kernel_rfl) (Nat.le_of_ble_eq_true rfl) rfl ?_ | refine Hp.wp_store 1 sh rfl rfl rfl rfl (by kernel_rfl) (Nat.le_of_ble_eq_true rfl) rfl ?_ | refine Hp.wp_store 2 sh rfl rfl rfl rfl (by kernel_rfl) (Nat.le_of_ble_eq_true rfl) rfl ?_ | refine Hp.wp_store 3 sh rfl rfl rfl rfl (by kernel_rfl) (Nat.le_of_ble_eq_true rfl) rfl ?_ | refine Hp.wp_store 4 sh rfl rfl rfl rfl (by kernel_rfl) (Nat.le_of_ble_eq_true rfl) rfl ?_ | refine Hp.wp_store 5 sh rfl rfl rfl rfl (by kernel_rfl) (Nat.le_of_ble_eq_true rfl) rfl ?_ | refine Hp.wp_store 6 sh rfl rfl rfl rfl (by kernel_rfl) (Nat.le_of_ble_eq_true rfl) rfl ?_); clear sh; (try clear F); go_simp; intro w1 sh; have F := sh.facts; (try simp only [Hp.Facts, Hp.CellsAt, Nat.reduceAdd, List.cons_append, List.nil_append] at F))
          | fail)
      go_quiet (fail)
      go_wp2
      go_roundw
      case rel => exact ⟨k + 1, g, by go_num, by go_num, by omega, by omega, sh.drewN _⟩
      case measure => simp [intOf] <;> omega
    · obtain rfl : k = r := by omega
      subst hg
      go_wp2_with (first
          | ((with_reducible refine Hp.wpl_box sh ?_ ?_); exact rfl; clear sh; (try clear F); go_simp; intro b w1 sh; have F := sh.facts; (try simp only [Hp.Facts, Hp.CellsAt, Nat.reduceAdd, List.cons_append, List.nil_append] at F))
          | ((with_reducible refine Hp.wpl_alloc Try.z_health sh ?_ ?_); exact rfl; clear sh; (try clear F); go_simp; intro b w1 sh; have F := sh.facts; (try simp only [Hp.Facts, Hp.CellsAt, Nat.reduceAdd, List.cons_append, List.nil_append] at F))
          | ((with_reducible refine Hp.wpl_alloc Try.z_part sh ?_ ?_); exact rfl; clear sh; (try clear F); go_simp; intro b w1 sh; have F := sh.facts; (try simp only [Hp.Facts, Hp.CellsAt, Nat.reduceAdd, List.cons_append, List.nil_append] at F))
          | ((with_reducible refine Hp.atl_store ?_ ?_); exact rfl; (first | refine Hp.wp_store 0 sh rfl rfl rfl rfl (by kernel_rfl) (Nat.le_of_ble_eq_true rfl) rfl ?_ | refine Hp.wp_store 1 sh rfl rfl rfl rfl (by kernel_rfl) (Nat.le_of_ble_eq_true rfl) rfl ?_ | refine Hp.wp_store 2 sh rfl rfl rfl rfl (by kernel_rfl) (Nat.le_of_ble_eq_true rfl) rfl ?_ | refine Hp.wp_store 3 sh rfl rfl rfl rfl (by kernel_rfl) (Nat.le_of_ble_eq_true rfl) rfl ?_ | refine Hp.wp_store 4 sh rfl rfl rfl rfl (by kernel_rfl) (Nat.le_of_ble_eq_true rfl) rfl ?_ | refine Hp.wp_store 5 sh rfl rfl rfl rfl (by kernel_rfl) (Nat.le_of_ble_eq_true rfl) rfl ?_ | refine Hp.wp_store 6 sh rfl rfl rfl rfl (by kernel_rfl) (Nat.le_of_ble_eq_true rfl) rfl ?_); clear sh; (try clear F); go_simp; intro w1 sh; have F := sh.facts; (try simp only [Hp.Facts, Hp.CellsAt, Nat.reduceAdd, List.cons_append, List.nil_append] at F))
          | fail)
      go_fit (HH.out _)
      rintro e w1 ⟨rfl, hb⟩
      replace sh := sh.call hb; clear hb; (try clear F); have F := sh.facts; (try simp only [Hp.Facts, Hp.CellsAt, Nat.reduceAdd, List.cons_append, List.nil_append] at F)
      go_wp2_with (first
          | ((with_reducible refine Hp.wpl_box sh ?_ ?_); exact rfl; clear sh; (try clear F); go_simp; intro b w1 sh; have F := sh.facts; (try simp only [Hp.Facts, Hp.CellsAt, Nat.reduceAdd, List.cons_append, List.nil_append] at F))
          | ((with_reducible refine Hp.wpl_alloc Try.z_health sh ?_ ?_); exact rfl; clear sh; (try clear F); go_simp; intro b w1 sh; have F := sh.facts; (try simp only [Hp.Facts, Hp.CellsAt, Nat.reduceAdd, List.cons_append, List.nil_append] at F))
          | ((with_reducible refine Hp.wpl_alloc Try.z_part sh ?_ ?_); exact rfl; clear sh; (try clear F); go_simp; intro b w1 sh; have F := sh.facts; (try simp only [Hp.Facts, Hp.CellsAt, Nat.reduceAdd, List.cons_append, List.nil_append] at F))
          | ((with_reducible refine Hp.atl_store ?_ ?_); exact rfl; (first | refine Hp.wp_store 0 sh rfl rfl rfl rfl (by kernel_rfl) (Nat.le_of_ble_eq_true rfl) rfl ?_ | refine Hp.wp_store 1 sh rfl rfl rfl rfl (by kernel_rfl) (Nat.le_of_ble_eq_true rfl) rfl ?_ | refine Hp.wp_store 2 sh rfl rfl rfl rfl (by kernel_rfl) (Nat.le_of_ble_eq_true rfl) rfl ?_ | refine Hp.wp_store 3 sh rfl rfl rfl rfl (by kernel_rfl) (Nat.le_of_ble_eq_true rfl) rfl ?_ | refine Hp.wp_store 4 sh rfl rfl rfl rfl (by kernel_rfl) (Nat.le_of_ble_eq_true rfl) rfl ?_ | refine Hp.wp_store 5 sh rfl rfl rfl rfl (by kernel_rfl) (Nat.le_of_ble_eq_true rfl) rfl ?_ | refine Hp.wp_store 6 sh rfl rfl rfl rfl (by kernel_rfl) (Nat.le_of_ble_eq_true rfl) rfl ?_); clear sh; (try clear F); go_simp; intro w1 sh; have F := sh.facts; (try simp only [Hp.Facts, Hp.CellsAt, Nat.reduceAdd, List.cons_append, List.nil_append] at F))
          | fail)
      go_ret
      exact ⟨rfl, sh.below⟩

set_option maxHeartbeats 4000000 in
set_option maxRecDepth 100000 in
theorem ends2 (p0 p1 p2 : Int) (cs : Option Addr) (cn cc : Nat) (ag : Int) (r : Nat) (h0 : 0 ≤ ag) (h1 : ag ≤ 100) (hr : (r : Int) ≤ ag) (w : World) :
    Calls Try.prog 5 #[.agg #[.int .i64 p0, .int .i64 p1, .int .i64 p2, .slice cs cn cc, .int .i64 2, .int .i64 ag], .int .i64 (r : Int)] w fun e w' => e = .returned (.bool true) ∧ Below w.heap.size w w' := by
  have sh : Hp.Sh w w [] (fun _ => True) := Hp.Sh.start (fun _ _ => trivial)
  have HH := Lib.hid (fun W => hhealthy W)
  have HA := Lib.hid (fun w0 W H D (sh : Hp.Sh w0 W H D) => (hall p0 p1 p2 cs cn cc 2 ag (r : Int) W (by omega) (by omega) (by omega)).mono fun e w' h => HeaP.AllP.sht sh h (f := (r : Int)) (a := (r : Int)) (d := false) (l := List.replicate r 2) (n := r) (by rw [show (min (r : Int) 1000).toNat = r by omega]; exact HeaP.all2 h0 h1 r hr) (by simp))
  have HI := Lib.hid (fun W => his p0 p1 p2 cs cn cc 2 ag 0 0 false W (by omega) (by omega) (by omega) (by omega))
  rw [HeaP.ok_mk (by omega)] at HI
  have HJ := Lib.hid (fun W => his p0 p1 p2 cs cn cc 2 ag ((r : Int)) ((r : Int)) false W (by omega) (by omega) (by omega) (by omega))
  rw [HeaP.ok_mk (by omega)] at HJ
  have hm1 : ¬ (1000 < (r : Int)) := by omega
  have hm2 : ¬ ((r : Int) < 0) := by omega
  have hm3 : ¬ (ag + 1 < (r : Int)) := by omega
  have hm4 : ¬ (ag + 1 ≤ (r : Int)) := by omega
  go_enter Try.func5, Try.ntmps5
  have tok_bp : True := trivial
  go_wp2_with (first
      | ((have tok := tok_bp); clear tok tok_bp; (first | (with_reducible refine Hp.wpl_box sh ?_ ?_) | (with_reducible refine Hp.wpl_alloc Try.z_health sh ?_ ?_) | (with_reducible refine Hp.wpl_alloc Try.z_part sh ?_ ?_)); exact rfl; clear sh; (try clear F); go_simp; intro bp w1 sh; have F := sh.facts; (try simp only [Hp.Facts, Hp.CellsAt, Nat.reduceAdd, List.cons_append, List.nil_append] at F))
      | ((with_reducible refine Hp.wpl_box sh ?_ ?_); exact rfl; clear sh; (try clear F); go_simp; intro b w1 sh; have F := sh.facts; (try simp only [Hp.Facts, Hp.CellsAt, Nat.reduceAdd, List.cons_append, List.nil_append] at F))
      | ((with_reducible refine Hp.wpl_alloc Try.z_health sh ?_ ?_); exact rfl; clear sh; (try clear F); go_simp; intro b w1 sh; have F := sh.facts; (try simp only [Hp.Facts, Hp.CellsAt, Nat.reduceAdd, List.cons_append, List.nil_append] at F))
      | ((with_reducible refine Hp.wpl_alloc Try.z_part sh ?_ ?_); exact rfl; clear sh; (try clear F); go_simp; intro b w1 sh; have F := sh.facts; (try simp only [Hp.Facts, Hp.CellsAt, Nat.reduceAdd, List.cons_append, List.nil_append] at F))
      | ((with_reducible refine Hp.atl_store ?_ ?_); exact rfl; (first | refine Hp.wp_store 0 sh rfl rfl rfl rfl (by kernel_rfl) (Nat.le_of_ble_eq_true rfl) rfl ?_ | refine Hp.wp_store 1 sh rfl rfl rfl rfl (by kernel_rfl) (Nat.le_of_ble_eq_true rfl) rfl ?_ | refine Hp.wp_store 2 sh rfl rfl rfl rfl (by kernel_rfl) (Nat.le_of_ble_eq_true rfl) rfl ?_ | refine Hp.wp_store 3 sh rfl rfl rfl rfl (by kernel_rfl) (Nat.le_of_ble_eq_true rfl) rfl ?_ | refine Hp.wp_store 4 sh rfl rfl rfl rfl (by kernel_rfl) (Nat.le_of_ble_eq_true rfl) rfl ?_ | refine Hp.wp_store 5 sh rfl rfl rfl rfl (by kernel_rfl) (Nat.le_of_ble_eq_true rfl) rfl ?_ | refine Hp.wp_store 6 sh rfl rfl rfl rfl (by kernel_rfl) (Nat.le_of_ble_eq_true rfl) rfl ?_); clear sh; (try clear F); go_simp; intro w1 sh; have F := sh.facts; (try simp only [Hp.Facts, Hp.CellsAt, Nat.reduceAdd, List.cons_append, List.nil_append] at F))
      | fail)
  go_fit (HA.out w _ _ _ sh)
  clear sh; (try clear F)
  rintro e w1 ⟨s, c, rfl, sh⟩
  have F := sh.facts; (try simp only [Hp.Facts, Hp.CellsAt, Nat.reduceAdd, List.cons_append, List.nil_append] at F)
  have tok_bh : True := trivial
  go_wp2_with (first
      | ((have tok := tok_bh); clear tok tok_bh; (first | (with_reducible refine Hp.wpl_box sh ?_ ?_) | (with_reducible refine Hp.wpl_alloc Try.z_health sh ?_ ?_) | (with_reducible refine Hp.wpl_alloc Try.z_part sh ?_ ?_)); exact rfl; clear sh; (try clear F); go_simp; intro bh w1 sh; have F := sh.facts; (try simp only [Hp.Facts, Hp.CellsAt, Nat.reduceAdd, List.cons_append, List.nil_append] at F))
      | ((with_reducible refine Hp.wpl_box sh ?_ ?_); exact rfl; clear sh; (try clear F); go_simp; intro b w1 sh; have F := sh.facts; (try simp only [Hp.Facts, Hp.CellsAt, Nat.reduceAdd, List.cons_append, List.nil_append] at F))
      | ((with_reducible refine Hp.wpl_alloc Try.z_health sh ?_ ?_); exact rfl; clear sh; (try clear F); go_simp; intro b w1 sh; have F := sh.facts; (try simp only [Hp.Facts, Hp.CellsAt, Nat.reduceAdd, List.cons_append, List.nil_append] at F))
      | ((with_reducible refine Hp.wpl_alloc Try.z_part sh ?_ ?_); exact rfl; clear sh; (try clear F); go_simp; intro b w1 sh; have F := sh.facts; (try simp only [Hp.Facts, Hp.CellsAt, Nat.reduceAdd, List.cons_append, List.nil_append] at F))
      | ((with_reducible refine Hp.atl_store ?_ ?_); exact rfl; (first | refine Hp.wp_store 0 sh rfl rfl rfl rfl (by kernel_rfl) (Nat.le_of_ble_eq_true rfl) rfl ?_ | refine Hp.wp_store 1 sh rfl rfl rfl rfl (by kernel_rfl) (Nat.le_of_ble_eq_true rfl) rfl ?_ | refine Hp.wp_store 2 sh rfl rfl rfl rfl (by kernel_rfl) (Nat.le_of_ble_eq_true rfl) rfl ?_ | refine Hp.wp_store 3 sh rfl rfl rfl rfl (by kernel_rfl) (Nat.le_of_ble_eq_true rfl) rfl ?_ | refine Hp.wp_store 4 sh rfl rfl rfl rfl (by kernel_rfl) (Nat.le_of_ble_eq_true rfl) rfl ?_ | refine Hp.wp_store 5 sh rfl rfl rfl rfl (by kernel_rfl) (Nat.le_of_ble_eq_true rfl) rfl ?_ | refine Hp.wp_store 6 sh rfl rfl rfl rfl (by kernel_rfl) (Nat.le_of_ble_eq_true rfl) rfl ?_); clear sh; (try clear F); go_simp; intro w1 sh; have F := sh.facts; (try simp only [Hp.Facts, Hp.CellsAt, Nat.reduceAdd, List.cons_append, List.nil_append] at F))
      | fail)
  go_fit (HI.out _)
  rintro e w1 ⟨rfl, hb⟩
  replace sh := sh.call hb; clear hb; (try clear F); have F := sh.facts; (try simp only [Hp.Facts, Hp.CellsAt, Nat.reduceAdd, List.cons_append, List.nil_append] at F)
  go_wp2_with (first
      | ((with_reducible refine Hp.wpl_box sh ?_ ?_); exact rfl; clear sh; (try clear F); go_simp; intro b w1 sh; have F := sh.facts; (try simp only [Hp.Facts, Hp.CellsAt, Nat.reduceAdd, List.cons_append, List.nil_append] at F))
      | ((with_reducible refine Hp.wpl_alloc Try.z_health sh ?_ ?_); exact rfl; clear sh; (try clear F); go_simp; intro b w1 sh; have F := sh.facts; (try simp only [Hp.Facts, Hp.CellsAt, Nat.reduceAdd, List.cons_append, List.nil_append] at F))
      | ((with_reducible refine Hp.wpl_alloc Try.z_part sh ?_ ?_); exact rfl; clear sh; (try clear F); go_simp; intro b w1 sh; have F := sh.facts; (try simp only [Hp.Facts, Hp.CellsAt, Nat.reduceAdd, List.cons_append, List.nil_append] at F))
      | ((with_reducible refine Hp.atl_store ?_ ?_); exact rfl; (first | refine Hp.wp_store 0 sh rfl rfl rfl rfl (by kernel_rfl) (Nat.le_of_ble_eq_true rfl) rfl ?_ | refine Hp.wp_store 1 sh rfl rfl rfl rfl (by kernel_rfl) (Nat.le_of_ble_eq_true rfl) rfl ?_ | refine Hp.wp_store 2 sh rfl rfl rfl rfl (by kernel_rfl) (Nat.le_of_ble_eq_true rfl) rfl ?_ | refine Hp.wp_store 3 sh rfl rfl rfl rfl (by kernel_rfl) (Nat.le_of_ble_eq_true rfl) rfl ?_ | refine Hp.wp_store 4 sh rfl rfl rfl rfl (by kernel_rfl) (Nat.le_of_ble_eq_true rfl) rfl ?_ | refine Hp.wp_store 5 sh rfl rfl rfl rfl (by kernel_rfl) (Nat.le_of_ble_eq_true rfl) rfl ?_ | refine Hp.wp_store 6 sh rfl rfl rfl rfl (by kernel_rfl) (Nat.le_of_ble_eq_true rfl) rfl ?_); clear sh; (try clear F); go_simp; intro w1 sh; have F := sh.facts; (try simp only [Hp.Facts, Hp.CellsAt, Nat.reduceAdd, List.cons_append, List.nil_append] at F))
      | fail)
  go_fit (HJ.out _)
  rintro e w1 ⟨rfl, hb⟩
  replace sh := sh.call hb; clear hb; (try clear F); have F := sh.facts; (try simp only [Hp.Facts, Hp.CellsAt, Nat.reduceAdd, List.cons_append, List.nil_append] at F)
  go_wp2_with (first
      | ((with_reducible refine Hp.wpl_box sh ?_ ?_); exact rfl; clear sh; (try clear F); go_simp; intro b w1 sh; have F := sh.facts; (try simp only [Hp.Facts, Hp.CellsAt, Nat.reduceAdd, List.cons_append, List.nil_append] at F))
      | ((with_reducible refine Hp.wpl_alloc Try.z_health sh ?_ ?_); exact rfl; clear sh; (try clear F); go_simp; intro b w1 sh; have F := sh.facts; (try simp only [Hp.Facts, Hp.CellsAt, Nat.reduceAdd, List.cons_append, List.nil_append] at F))
      | ((with_reducible refine Hp.wpl_alloc Try.z_part sh ?_ ?_); exact rfl; clear sh; (try clear F); go_simp; intro b w1 sh; have F := sh.facts; (try simp only [Hp.Facts, Hp.CellsAt, Nat.reduceAdd, List.cons_append, List.nil_append] at F))
      | ((with_reducible refine Hp.atl_store ?_ ?_); exact rfl; (first | refine Hp.wp_store 0 sh rfl rfl rfl rfl (by kernel_rfl) (Nat.le_of_ble_eq_true rfl) rfl ?_ | refine Hp.wp_store 1 sh rfl rfl rfl rfl (by kernel_rfl) (Nat.le_of_ble_eq_true rfl) rfl ?_ | refine Hp.wp_store 2 sh rfl rfl rfl rfl (by kernel_rfl) (Nat.le_of_ble_eq_true rfl) rfl ?_ | refine Hp.wp_store 3 sh rfl rfl rfl rfl (by kernel_rfl) (Nat.le_of_ble_eq_true rfl) rfl ?_ | refine Hp.wp_store 4 sh rfl rfl rfl rfl (by kernel_rfl) (Nat.le_of_ble_eq_true rfl) rfl ?_ | refine Hp.wp_store 5 sh rfl rfl rfl rfl (by kernel_rfl) (Nat.le_of_ble_eq_true rfl) rfl ?_ | refine Hp.wp_store 6 sh rfl rfl rfl rfl (by kernel_rfl) (Nat.le_of_ble_eq_true rfl) rfl ?_); clear sh; (try clear F); go_simp; intro w1 sh; have F := sh.facts; (try simp only [Hp.Facts, Hp.CellsAt, Nat.reduceAdd, List.cons_append, List.nil_append] at F))
      | fail)
  go_loopw [8, 9] (fun g i wr => ∃ (k g' : Nat), g = .int .i64 g' ∧ i = .int .i64 k ∧ k ≤ r ∧ g' = k ∧ Hp.Sh w wr [(bh, #[.int .i64 ((r : Int)), .int .i64 ((r : Int)), .bool false], 26), (bp, #[.int .i64 p0, .int .i64 p1, .int .i64 p2, .slice cs cn cc, .int .i64 2, .int .i64 ag], 24)] (fun W => Hp.RdV W s (nums (List.replicate r 2)))) (fun _ i _ => r - (intOf i).toNat)
  case atStart => exact ⟨0, 0, rfl, rfl, by omega, by omega, by first | exact sh | exact sh.imp fun W h => h.1⟩
  case round =>
    clear sh F
    obtain ⟨k, g, rfl, rfl, hk, hg, sh⟩ := hrel
    have F := sh.facts; (try simp only [Hp.Facts, Hp.CellsAt, Nat.reduceAdd, List.cons_append, List.nil_append] at F)
    by_cases hlt : k < r
    · have hlI : (k : Int) < ((r : Nat) : Int) := by omega
      obtain ⟨p, rfl, -⟩ := sh.data (by simp [nums]; try omega)
      have hc1 := sh.data.cell k (v := .int .i64 2) (by simp [nums, List.getElem?_replicate]; omega)
      skip
      go_wp2_with (first
          | ((with_reducible refine Hp.wpl_box sh ?_ ?_); exact rfl; clear sh; (try clear F); go_simp; intro b w1 sh; have F := sh.facts; (try simp only [Hp.Facts, Hp.CellsAt, Nat.reduceAdd, List.cons_append, List.nil_append] at F))
          | ((with_reducible refine Hp.wpl_alloc Try.z_health sh ?_ ?_); exact rfl; clear sh; (try clear F); go_simp; intro b w1 sh; have F := sh.facts; (try simp only [Hp.Facts, Hp.CellsAt, Nat.reduceAdd, List.cons_append, List.nil_append] at F))
          | ((with_reducible refine Hp.wpl_alloc Try.z_part sh ?_ ?_); exact rfl; clear sh; (try clear F); go_simp; intro b w1 sh; have F := sh.facts; (try simp only [Hp.Facts, Hp.CellsAt, Nat.reduceAdd, List.cons_append, List.nil_append] at F))
          | ((with_reducible refine Hp.atl_store ?_ ?_); exact rfl; (first | refine Hp.wp_store 0 sh rfl rfl rfl rfl (by kernel_rfl) (Nat.le_of_ble_eq_true rfl) rfl ?_ | refine Hp.wp_store 1 sh rfl rfl rfl rfl (by kernel_rfl) (Nat.le_of_ble_eq_true rfl) rfl ?_ | refine Hp.wp_store 2 sh rfl rfl rfl rfl (by kernel_rfl) (Nat.le_of_ble_eq_true rfl) rfl ?_ | refine Hp.wp_store 3 sh rfl rfl rfl rfl (by kernel_rfl) (Nat.le_of_ble_eq_true rfl) rfl ?_ | refine Hp.wp_store 4 sh rfl rfl rfl rfl (by kernel_rfl) (Nat.le_of_ble_eq_true rfl) rfl ?_ | refine Hp.wp_store 5 sh rfl rfl rfl rfl (by kernel_rfl) (Nat.le_of_ble_eq_true rfl) rfl ?_ | refine Hp.wp_store 6 sh rfl rfl rfl rfl (by kernel_rfl) (Nat.le_of_ble_eq_true rfl) rfl ?_); clear sh; (try clear F); go_simp; intro w1 sh; have F := sh.facts; (try simp only [Hp.Facts, Hp.CellsAt, Nat.reduceAdd, List.cons_append, List.nil_append] at F))
          | fail)
      go_quiet (fail)
      go_wp2
      go_roundw
      case rel => exact ⟨k + 1, g + 1, by go_num, by go_num, by omega, by omega, sh.drewN _⟩
      case measure => simp [intOf] <;> omega
    · obtain rfl : k = r := by omega
      subst hg
      go_wp2_with (first
          | ((with_reducible refine Hp.wpl_box sh ?_ ?_); exact rfl; clear sh; (try clear F); go_simp; intro b w1 sh; have F := sh.facts; (try simp only [Hp.Facts, Hp.CellsAt, Nat.reduceAdd, List.cons_append, List.nil_append] at F))
          | ((with_reducible refine Hp.wpl_alloc Try.z_health sh ?_ ?_); exact rfl; clear sh; (try clear F); go_simp; intro b w1 sh; have F := sh.facts; (try simp only [Hp.Facts, Hp.CellsAt, Nat.reduceAdd, List.cons_append, List.nil_append] at F))
          | ((with_reducible refine Hp.wpl_alloc Try.z_part sh ?_ ?_); exact rfl; clear sh; (try clear F); go_simp; intro b w1 sh; have F := sh.facts; (try simp only [Hp.Facts, Hp.CellsAt, Nat.reduceAdd, List.cons_append, List.nil_append] at F))
          | ((with_reducible refine Hp.atl_store ?_ ?_); exact rfl; (first | refine Hp.wp_store 0 sh rfl rfl rfl rfl (by kernel_rfl) (Nat.le_of_ble_eq_true rfl) rfl ?_ | refine Hp.wp_store 1 sh rfl rfl rfl rfl (by kernel_rfl) (Nat.le_of_ble_eq_true rfl) rfl ?_ | refine Hp.wp_store 2 sh rfl rfl rfl rfl (by kernel_rfl) (Nat.le_of_ble_eq_true rfl) rfl ?_ | refine Hp.wp_store 3 sh rfl rfl rfl rfl (by kernel_rfl) (Nat.le_of_ble_eq_true rfl) rfl ?_ | refine Hp.wp_store 4 sh rfl rfl rfl rfl (by kernel_rfl) (Nat.le_of_ble_eq_true rfl) rfl ?_ | refine Hp.wp_store 5 sh rfl rfl rfl rfl (by kernel_rfl) (Nat.le_of_ble_eq_true rfl) rfl ?_ | refine Hp.wp_store 6 sh rfl rfl rfl rfl (by kernel_rfl) (Nat.le_of_ble_eq_true rfl) rfl ?_); clear sh; (try clear F); go_simp; intro w1 sh; have F := sh.facts; (try simp only [Hp.Facts, Hp.CellsAt, Nat.reduceAdd, List.cons_append, List.nil_append] at F))
          | fail)
      go_fit (HH.out _)
      rintro e w1 ⟨rfl, hb⟩
      replace sh := sh.call hb; clear hb; (try clear F); have F := sh.facts; (try simp only [Hp.Facts, Hp.CellsAt, Nat.reduceAdd, List.cons_append, List.nil_append] at F)
      go_wp2_with (first
          | ((with_reducible refine Hp.wpl_box sh ?_ ?_); exact rfl; clear sh; (try clear F); go_simp; intro b w1 sh; have F := sh.facts; (try simp only [Hp.Facts, Hp.CellsAt, Nat.reduceAdd, List.cons_append, List.nil_append] at F))
          | ((with_reducible refine Hp.wpl_alloc Try.z_health sh ?_ ?_); exact rfl; clear sh; (try clear F); go_simp; intro b w1 sh; have F := sh.facts; (try simp only [Hp.Facts, Hp.CellsAt, Nat.reduceAdd, List.cons_append, List.nil_append] at F))
          | ((with_reducible refine Hp.wpl_alloc Try.z_part sh ?_ ?_); exact rfl; clear sh; (try clear F); go_simp; intro b w1 sh; have F := sh.facts; (try simp only [Hp.Facts, Hp.CellsAt, Nat.reduceAdd, List.cons_append, List.nil_append] at F))
          | ((with_reducible refine Hp.atl_store ?_ ?_); exact rfl; (first | refine Hp.wp_store 0 sh rfl rfl rfl rfl (by kernel_rfl) (Nat.le_of_ble_eq_true rfl) rfl ?_ | refine Hp.wp_store 1 sh rfl rfl rfl rfl (by kernel_rfl) (Nat.le_of_ble_eq_true rfl) rfl ?_ | refine Hp.wp_store 2 sh rfl rfl rfl rfl (by kernel_rfl) (Nat.le_of_ble_eq_true rfl) rfl ?_ | refine Hp.wp_store 3 sh rfl rfl rfl rfl (by kernel_rfl) (Nat.le_of_ble_eq_true rfl) rfl ?_ | refine Hp.wp_store 4 sh rfl rfl rfl rfl (by kernel_rfl) (Nat.le_of_ble_eq_true rfl) rfl ?_ | refine Hp.wp_store 5 sh rfl rfl rfl rfl (by kernel_rfl) (Nat.le_of_ble_eq_true rfl) rfl ?_ | refine Hp.wp_store 6 sh rfl rfl rfl rfl (by kernel_rfl) (Nat.le_of_ble_eq_true rfl) rfl ?_); clear sh; (try clear F); go_simp; intro w1 sh; have F := sh.facts; (try simp only [Hp.Facts, Hp.CellsAt, Nat.reduceAdd, List.cons_append, List.nil_append] at F))
          | fail)
      go_ret
      exact ⟨rfl, sh.below⟩

set_option maxHeartbeats 4000000 in
set_option maxRecDepth 100000 in
theorem ends2d (p0 p1 p2 : Int) (cs : Option Addr) (cn cc : Nat) (q : Nat) (h1 : q ≤ 100) (n : Int) (hn : (q : Int) + 1 < n) (hn2 : n ≤ 1000) (w : World) :
    Calls Try.prog 5 #[.agg #[.int .i64 p0, .int .i64 p1, .int .i64 p2, .slice cs cn cc, .int .i64 2, .int .i64 (q : Int)], .int .i64 n] w fun e w' => e = .returned (.bool true) ∧ Below w.heap.size w w' := by
  have sh : Hp.Sh w w [] (fun _ => True) := Hp.Sh.start (fun _ _ => trivial)
  have HH := Lib.hid (fun W => hhealthy W)
  have HA := Lib.hid (fun w0 W H D (sh : Hp.Sh w0 W H D) => (hall p0 p1 p2 cs cn cc 2 (q : Int) n W (by omega) (by omega) (by omega)).mono fun e w' h => HeaP.AllP.sht sh h (f := (q : Int) + 1) (a := (q : Int)) (d := true) (l := List.replicate q 2 ++ [3]) (n := (q + 1)) (HeaP.all2d h1 _ (by omega)) (by simp))
  have HI := Lib.hid (fun W => his p0 p1 p2 cs cn cc 2 (q : Int) 0 0 false W (by omega) (by omega) (by omega) (by omega))
  rw [HeaP.ok_mk (by omega)] at HI
  have HJ := Lib.hid (fun W => his p0 p1 p2 cs cn cc 2 (q : Int) ((q : Int) + 1) ((q : Int)) true W (by omega) (by omega) (by omega) (by omega))
  rw [HeaP.ok_mk (by omega)] at HJ
  have hm1 : ¬ (1000 < n) := by omega
  have hm2 : ¬ (n < 0) := by omega
  have hm4 : (q : Int) + 1 ≤ n := by omega
  go_enter Try.func5, Try.ntmps5
  have tok_bp : True := trivial
  go_wp2_with (first
      | ((have tok := tok_bp); clear tok tok_bp; (first | (with_reducible refine Hp.wpl_box sh ?_ ?_) | (with_reducible refine Hp.wpl_alloc Try.z_health sh ?_ ?_) | (with_reducible refine Hp.wpl_alloc Try.z_part sh ?_ ?_)); exact rfl; clear sh; (try clear F); go_simp; intro bp w1 sh; have F := sh.facts; (try simp only [Hp.Facts, Hp.CellsAt, Nat.reduceAdd, List.cons_append, List.nil_append] at F))
      | ((with_reducible refine Hp.wpl_box sh ?_ ?_); exact rfl; clear sh; (try clear F); go_simp; intro b w1 sh; have F := sh.facts; (try simp only [Hp.Facts, Hp.CellsAt, Nat.reduceAdd, List.cons_append, List.nil_append] at F))
      | ((with_reducible refine Hp.wpl_alloc Try.z_health sh ?_ ?_); exact rfl; clear sh; (try clear F); go_simp; intro b w1 sh; have F := sh.facts; (try simp only [Hp.Facts, Hp.CellsAt, Nat.reduceAdd, List.cons_append, List.nil_append] at F))
      | ((with_reducible refine Hp.wpl_alloc Try.z_part sh ?_ ?_); exact rfl; clear sh; (try clear F); go_simp; intro b w1 sh; have F := sh.facts; (try simp only [Hp.Facts, Hp.CellsAt, Nat.reduceAdd, List.cons_append, List.nil_append] at F))
      | ((with_reducible refine Hp.atl_store ?_ ?_); exact rfl; (first | refine Hp.wp_store 0 sh rfl rfl rfl rfl (by kernel_rfl) (Nat.le_of_ble_eq_true rfl) rfl ?_ | refine Hp.wp_store 1 sh rfl rfl rfl rfl (by kernel_rfl) (Nat.le_of_ble_eq_true rfl) rfl ?_ | refine Hp.wp_store 2 sh rfl rfl rfl rfl (by kernel_rfl) (Nat.le_of_ble_eq_true rfl) rfl ?_ | refine Hp.wp_store 3 sh rfl rfl rfl rfl (by kernel_rfl) (Nat.le_of_ble_eq_true rfl) rfl ?_ | refine Hp.wp_store 4 sh rfl rfl rfl rfl (by kernel_rfl) (Nat.le_of_ble_eq_true rfl) rfl ?_ | refine Hp.wp_store 5 sh rfl rfl rfl rfl (by kernel_rfl) (Nat.le_of_ble_eq_true rfl) rfl ?_ | refine Hp.wp_store 6 sh rfl rfl rfl rfl (by kernel_rfl) (Nat.le_of_ble_eq_true rfl) rfl ?_); clear sh; (try clear F); go_simp; intro w1 sh; have F := sh.facts; (try simp only [Hp.Facts, Hp.CellsAt, Nat.reduceAdd, List.cons_append, List.nil_append] at F))
      | fail)
  go_fit (HA.out w _ _ _ sh)
  clear sh; (try clear F)
  rintro e w1 ⟨s, c, rfl, sh⟩
  have F := sh.facts; (try simp only [Hp.Facts, Hp.CellsAt, Nat.reduceAdd, List.cons_append, List.nil_append] at F)
  have tok_bh : True := trivial
  go_wp2_with (first
      | ((have tok := tok_bh); clear tok tok_bh; (first | (with_reducible refine Hp.wpl_box sh ?_ ?_) | (with_reducible refine Hp.wpl_alloc Try.z_health sh ?_ ?_) | (with_reducible refine Hp.wpl_alloc Try.z_part sh ?_ ?_)); exact rfl; clear sh; (try clear F); go_simp; intro bh w1 sh; have F := sh.facts; (try simp only [Hp.Facts, Hp.CellsAt, Nat.reduceAdd, List.cons_append, List.nil_append] at F))
      | ((with_reducible refine Hp.wpl_box sh ?_ ?_); exact rfl; clear sh; (try clear F); go_simp; intro b w1 sh; have F := sh.facts; (try simp only [Hp.Facts, Hp.CellsAt, Nat.reduceAdd, List.cons_append, List.nil_append] at F))
      | ((with_reducible refine Hp.wpl_alloc Try.z_health sh ?_ ?_); exact rfl; clear sh; (try clear F); go_simp; intro b w1 sh; have F := sh.facts; (try simp only [Hp.Facts, Hp.CellsAt, Nat.reduceAdd, List.cons_append, List.nil_append] at F))
      | ((with_reducible refine Hp.wpl_alloc Try.z_part sh ?_ ?_); exact rfl; clear sh; (try clear F); go_simp; intro b w1 sh; have F := sh.facts; (try simp only [Hp.Facts, Hp.CellsAt, Nat.reduceAdd, List.cons_append, List.nil_append] at F))
      | ((with_reducible refine Hp.atl_store ?_ ?_); exact rfl; (first | refine Hp.wp_store 0 sh rfl rfl rfl rfl (by kernel_rfl) (Nat.le_of_ble_eq_true rfl) rfl ?_ | refine Hp.wp_store 1 sh rfl rfl rfl rfl (by kernel_rfl) (Nat.le_of_ble_eq_true rfl) rfl ?_ | refine Hp.wp_store 2 sh rfl rfl rfl rfl (by kernel_rfl) (Nat.le_of_ble_eq_true rfl) rfl ?_ | refine Hp.wp_store 3 sh rfl rfl rfl rfl (by kernel_rfl) (Nat.le_of_ble_eq_true rfl) rfl ?_ | refine Hp.wp_store 4 sh rfl rfl rfl rfl (by kernel_rfl) (Nat.le_of_ble_eq_true rfl) rfl ?_ | refine Hp.wp_store 5 sh rfl rfl rfl rfl (by kernel_rfl) (Nat.le_of_ble_eq_true rfl) rfl ?_ | refine Hp.wp_store 6 sh rfl rfl rfl rfl (by kernel_rfl) (Nat.le_of_ble_eq_true rfl) rfl ?_); clear sh; (try clear F); go_simp; intro w1 sh; have F := sh.facts; (try simp only [Hp.Facts, Hp.CellsAt, Nat.reduceAdd, List.cons_append, List.nil_append] at F))
      | fail)
  go_fit (HI.out _)
  rintro e w1 ⟨rfl, hb⟩
  replace sh := sh.call hb; clear hb; (try clear F); have F := sh.facts; (try simp only [Hp.Facts, Hp.CellsAt, Nat.reduceAdd, List.cons_append, List.nil_append] at F)
  go_wp2_with (first
      | ((with_reducible refine Hp.wpl_box sh ?_ ?_); exact rfl; clear sh; (try clear F); go_simp; intro b w1 sh; have F := sh.facts; (try simp only [Hp.Facts, Hp.CellsAt, Nat.reduceAdd, List.cons_append, List.nil_append] at F))
      | ((with_reducible refine Hp.wpl_alloc Try.z_health sh ?_ ?_); exact rfl; clear sh; (try clear F); go_simp; intro b w1 sh; have F := sh.facts; (try simp only [Hp.Facts, Hp.CellsAt, Nat.reduceAdd, List.cons_append, List.nil_append] at F))
      | ((with_reducible refine Hp.wpl_alloc Try.z_part sh ?_ ?_); exact rfl; clear sh; (try clear F); go_simp; intro b w1 sh; have F := sh.facts; (try simp only [Hp.Facts, Hp.CellsAt, Nat.reduceAdd, List.cons_append, List.nil_append] at F))
      | ((with_reducible refine Hp.atl_store ?_ ?_); exact rfl; (first | refine Hp.wp_store 0 sh rfl rfl rfl rfl (by kernel_rfl) (Nat.le_of_ble_eq_true rfl) rfl ?_ | refine Hp.wp_store 1 sh rfl rfl rfl rfl (by kernel_rfl) (Nat.le_of_ble_eq_true rfl) rfl ?_ | refine Hp.wp_store 2 sh rfl rfl rfl rfl (by kernel_rfl) (Nat.le_of_ble_eq_true rfl) rfl ?_ | refine Hp.wp_store 3 sh rfl rfl rfl rfl (by kernel_rfl) (Nat.le_of_ble_eq_true rfl) rfl ?_ | refine Hp.wp_store 4 sh rfl rfl rfl rfl (by kernel_rfl) (Nat.le_of_ble_eq_true rfl) rfl ?_ | refine Hp.wp_store 5 sh rfl rfl rfl rfl (by kernel_rfl) (Nat.le_of_ble_eq_true rfl) rfl ?_ | refine Hp.wp_store 6 sh rfl rfl rfl rfl (by kernel_rfl) (Nat.le_of_ble_eq_true rfl) rfl ?_); clear sh; (try clear F); go_simp; intro w1 sh; have F := sh.facts; (try simp only [Hp.Facts, Hp.CellsAt, Nat.reduceAdd, List.cons_append, List.nil_append] at F))
      | fail)
  go_fit (HJ.out _)
  rintro e w1 ⟨rfl, hb⟩
  replace sh := sh.call hb; clear hb; (try clear F); have F := sh.facts; (try simp only [Hp.Facts, Hp.CellsAt, Nat.reduceAdd, List.cons_append, List.nil_append] at F)
  go_wp2_with (first
      | ((with_reducible refine Hp.wpl_box sh ?_ ?_); exact rfl; clear sh; (try clear F); go_simp; intro b w1 sh; have F := sh.facts; (try simp only [Hp.Facts, Hp.CellsAt, Nat.reduceAdd, List.cons_append, List.nil_append] at F))
      | ((with_reducible refine Hp.wpl_alloc Try.z_health sh ?_ ?_); exact rfl; clear sh; (try clear F); go_simp; intro b w1 sh; have F := sh.facts; (try simp only [Hp.Facts, Hp.CellsAt, Nat.reduceAdd, List.cons_append, List.nil_append] at F))
      | ((with_reducible refine Hp.wpl_alloc Try.z_part sh ?_ ?_); exact rfl; clear sh; (try clear F); go_simp; intro b w1 sh; have F := sh.facts; (try simp only [Hp.Facts, Hp.CellsAt, Nat.reduceAdd, List.cons_append, List.nil_append] at F))
      | ((with_reducible refine Hp.atl_store ?_ ?_); exact rfl; (first | refine Hp.wp_store 0 sh rfl rfl rfl rfl (by kernel_rfl) (Nat.le_of_ble_eq_true rfl) rfl ?_ | refine Hp.wp_store 1 sh rfl rfl rfl rfl (by kernel_rfl) (Nat.le_of_ble_eq_true rfl) rfl ?_ | refine Hp.wp_store 2 sh rfl rfl rfl rfl (by kernel_rfl) (Nat.le_of_ble_eq_true rfl) rfl ?_ | refine Hp.wp_store 3 sh rfl rfl rfl rfl (by kernel_rfl) (Nat.le_of_ble_eq_true rfl) rfl ?_ | refine Hp.wp_store 4 sh rfl rfl rfl rfl (by kernel_rfl) (Nat.le_of_ble_eq_true rfl) rfl ?_ | refine Hp.wp_store 5 sh rfl rfl rfl rfl (by kernel_rfl) (Nat.le_of_ble_eq_true rfl) rfl ?_ | refine Hp.wp_store 6 sh rfl rfl rfl rfl (by kernel_rfl) (Nat.le_of_ble_eq_true rfl) rfl ?_); clear sh; (try clear F); go_simp; intro w1 sh; have F := sh.facts; (try simp only [Hp.Facts, Hp.CellsAt, Nat.reduceAdd, List.cons_append, List.nil_append] at F))
      | fail)
  go_loopw [8, 9] (fun g i wr => ∃ (k g' : Nat), g = .int .i64 g' ∧ i = .int .i64 k ∧ k ≤ (q + 1) ∧ ((k ≤ q → g' = k) ∧ (q < k → g' = q)) ∧ Hp.Sh w wr [(bh, #[.int .i64 ((q : Int) + 1), .int .i64 ((q : Int)), .bool true], 26), (bp, #[.int .i64 p0, .int .i64 p1, .int .i64 p2, .slice cs cn cc, .int .i64 2, .int .i64 (q : Int)], 24)] (fun W => Hp.RdV W s (nums (List.replicate q 2 ++ [3])))) (fun _ i _ => (q + 1) - (intOf i).toNat)
  case atStart => exact ⟨0, 0, rfl, rfl, by omega, by omega, by first | exact sh | exact sh.imp fun W h => h.1⟩
  case round =>
    clear sh F
    obtain ⟨k, g, rfl, rfl, hk, hg, sh⟩ := hrel
    have F := sh.facts; (try simp only [Hp.Facts, Hp.CellsAt, Nat.reduceAdd, List.cons_append, List.nil_append] at F)
    by_cases hlt : k < (q + 1)
    · have hlI : (k : Int) < (((q + 1) : Nat) : Int) := by omega
      obtain ⟨p, rfl, -⟩ := sh.data (by simp [nums]; try omega)
      by_cases hkq : k < q
      · have hc1 := sh.data.cell k (v := .int .i64 2) (by simp [nums, List.getElem?_append, List.getElem?_replicate, hkq])
        have hne : ((k : Int) == (q : Int)) = false := by rw [beq_eq_false_iff_ne]; omega
        go_wp2_with (first
            | ((with_reducible refine Hp.wpl_box sh ?_ ?_); exact rfl; clear sh; (try clear F); go_simp; intro b w1 sh; have F := sh.facts; (try simp only [Hp.Facts, Hp.CellsAt, Nat.reduceAdd, List.cons_append, List.nil_append] at F))
            | ((with_reducible refine Hp.wpl_alloc Try.z_health sh ?_ ?_); exact rfl; clear sh; (try clear F); go_simp; intro b w1 sh; have F := sh.facts; (try simp only [Hp.Facts, Hp.CellsAt, Nat.reduceAdd, List.cons_append, List.nil_append] at F))
            | ((with_reducible refine Hp.wpl_alloc Try.z_part sh ?_ ?_); exact rfl; clear sh; (try clear F); go_simp; intro b w1 sh; have F := sh.facts; (try simp only [Hp.Facts, Hp.CellsAt, Nat.reduceAdd, List.cons_append, List.nil_append] at F))
            | ((with_reducible refine Hp.atl_store ?_ ?_); exact rfl; (first | refine Hp.wp_store 0 sh rfl rfl rfl rfl (by kernel_rfl) (Nat.le_of_ble_eq_true rfl) rfl ?_ | refine Hp.wp_store 1 sh rfl rfl rfl rfl (by kernel_rfl) (Nat.le_of_ble_eq_true rfl) rfl ?_ | refine Hp.wp_store 2 sh rfl rfl rfl rfl (by kernel_rfl) (Nat.le_of_ble_eq_true rfl) rfl ?_ | refine Hp.wp_store 3 sh rfl rfl rfl rfl (by kernel_rfl) (Nat.le_of_ble_eq_true rfl) rfl ?_ | refine Hp.wp_store 4 sh rfl rfl rfl rfl (by kernel_rfl) (Nat.le_of_ble_eq_true rfl) rfl ?_ | refine Hp.wp_store 5 sh rfl rfl rfl rfl (by kernel_rfl) (Nat.le_of_ble_eq_true rfl) rfl ?_ | refine Hp.wp_store 6 sh rfl rfl rfl rfl (by kernel_rfl) (Nat.le_of_ble_eq_true rfl) rfl ?_); clear sh; (try clear F); go_simp; intro w1 sh; have F := sh.facts; (try simp only [Hp.Facts, Hp.CellsAt, Nat.reduceAdd, List.cons_append, List.nil_append] at F))
            | fail)
        go_quiet (fail)
        go_wp2
        go_roundw
        case rel => exact ⟨k + 1, g + 1, by go_num, by go_num, by omega, by omega, sh.drewN _⟩
        case measure => simp [intOf] <;> omega
      · obtain rfl : k = q := by omega
        have hc1 := sh.data.cell k (v := .int .i64 3) (by simp [nums])
        skip
        go_wp2_with (first
            | ((with_reducible refine Hp.wpl_box sh ?_ ?_); exact rfl; clear sh; (try clear F); go_simp; intro b w1 sh; have F := sh.facts; (try simp only [Hp.Facts, Hp.CellsAt, Nat.reduceAdd, List.cons_append, List.nil_append] at F))
            | ((with_reducible refine Hp.wpl_alloc Try.z_health sh ?_ ?_); exact rfl; clear sh; (try clear F); go_simp; intro b w1 sh; have F := sh.facts; (try simp only [Hp.Facts, Hp.CellsAt, Nat.reduceAdd, List.cons_append, List.nil_append] at F))
            | ((with_reducible refine Hp.wpl_alloc Try.z_part sh ?_ ?_); exact rfl; clear sh; (try clear F); go_simp; intro b w1 sh; have F := sh.facts; (try simp only [Hp.Facts, Hp.CellsAt, Nat.reduceAdd, List.cons_append, List.nil_append] at F))
            | ((with_reducible refine Hp.atl_store ?_ ?_); exact rfl; (first | refine Hp.wp_store 0 sh rfl rfl rfl rfl (by kernel_rfl) (Nat.le_of_ble_eq_true rfl) rfl ?_ | refine Hp.wp_store 1 sh rfl rfl rfl rfl (by kernel_rfl) (Nat.le_of_ble_eq_true rfl) rfl ?_ | refine Hp.wp_store 2 sh rfl rfl rfl rfl (by kernel_rfl) (Nat.le_of_ble_eq_true rfl) rfl ?_ | refine Hp.wp_store 3 sh rfl rfl rfl rfl (by kernel_rfl) (Nat.le_of_ble_eq_true rfl) rfl ?_ | refine Hp.wp_store 4 sh rfl rfl rfl rfl (by kernel_rfl) (Nat.le_of_ble_eq_true rfl) rfl ?_ | refine Hp.wp_store 5 sh rfl rfl rfl rfl (by kernel_rfl) (Nat.le_of_ble_eq_true rfl) rfl ?_ | refine Hp.wp_store 6 sh rfl rfl rfl rfl (by kernel_rfl) (Nat.le_of_ble_eq_true rfl) rfl ?_); clear sh; (try clear F); go_simp; intro w1 sh; have F := sh.facts; (try simp only [Hp.Facts, Hp.CellsAt, Nat.reduceAdd, List.cons_append, List.nil_append] at F))
            | fail)
        go_quiet (fail)
        go_wp2
        go_roundw
        case rel => exact ⟨k + 1, g, by go_num, by go_num, by omega, by omega, sh.drewN _⟩
        case measure => simp [intOf] <;> omega
    · obtain rfl : k = (q + 1) := by omega
      obtain rfl : g = q := by omega
      go_wp2_with (first
          | ((with_reducible refine Hp.wpl_box sh ?_ ?_); exact rfl; clear sh; (try clear F); go_simp; intro b w1 sh; have F := sh.facts; (try simp only [Hp.Facts, Hp.CellsAt, Nat.reduceAdd, List.cons_append, List.nil_append] at F))
          | ((with_reducible refine Hp.wpl_alloc Try.z_health sh ?_ ?_); exact rfl; clear sh; (try clear F); go_simp; intro b w1 sh; have F := sh.facts; (try simp only [Hp.Facts, Hp.CellsAt, Nat.reduceAdd, List.cons_append, List.nil_append] at F))
          | ((with_reducible refine Hp.wpl_alloc Try.z_part sh ?_ ?_); exact rfl; clear sh; (try clear F); go_simp; intro b w1 sh; have F := sh.facts; (try simp only [Hp.Facts, Hp.CellsAt, Nat.reduceAdd, List.cons_append, List.nil_append] at F))
          | ((with_reducible refine Hp.atl_store ?_ ?_); exact rfl; (first | refine Hp.wp_store 0 sh rfl rfl rfl rfl (by kernel_rfl) (Nat.le_of_ble_eq_true rfl) rfl ?_ | refine Hp.wp_store 1 sh rfl rfl rfl rfl (by kernel_rfl) (Nat.le_of_ble_eq_true rfl) rfl ?_ | refine Hp.wp_store 2 sh rfl rfl rfl rfl (by kernel_rfl) (Nat.le_of_ble_eq_true rfl) rfl ?_ | refine Hp.wp_store 3 sh rfl rfl rfl rfl (by kernel_rfl) (Nat.le_of_ble_eq_true rfl) rfl ?_ | refine Hp.wp_store 4 sh rfl rfl rfl rfl (by kernel_rfl) (Nat.le_of_ble_eq_true rfl) rfl ?_ | refine Hp.wp_store 5 sh rfl rfl rfl rfl (by kernel_rfl) (Nat.le_of_ble_eq_true rfl) rfl ?_ | refine Hp.wp_store 6 sh rfl rfl rfl rfl (by kernel_rfl) (Nat.le_of_ble_eq_true rfl) rfl ?_); clear sh; (try clear F); go_simp; intro w1 sh; have F := sh.facts; (try simp only [Hp.Facts, Hp.CellsAt, Nat.reduceAdd, List.cons_append, List.nil_append] at F))
          | fail)
      go_fit (HH.out _)
      rintro e w1 ⟨rfl, hb⟩
      replace sh := sh.call hb; clear hb; (try clear F); have F := sh.facts; (try simp only [Hp.Facts, Hp.CellsAt, Nat.reduceAdd, List.cons_append, List.nil_append] at F)
      go_wp2_with (first
          | ((with_reducible refine Hp.wpl_box sh ?_ ?_); exact rfl; clear sh; (try clear F); go_simp; intro b w1 sh; have F := sh.facts; (try simp only [Hp.Facts, Hp.CellsAt, Nat.reduceAdd, List.cons_append, List.nil_append] at F))
          | ((with_reducible refine Hp.wpl_alloc Try.z_health sh ?_ ?_); exact rfl; clear sh; (try clear F); go_simp; intro b w1 sh; have F := sh.facts; (try simp only [Hp.Facts, Hp.CellsAt, Nat.reduceAdd, List.cons_append, List.nil_append] at F))
          | ((with_reducible refine Hp.wpl_alloc Try.z_part sh ?_ ?_); exact rfl; clear sh; (try clear F); go_simp; intro b w1 sh; have F := sh.facts; (try simp only [Hp.Facts, Hp.CellsAt, Nat.reduceAdd, List.cons_append, List.nil_append] at F))
          | ((with_reducible refine Hp.atl_store ?_ ?_); exact rfl; (first | refine Hp.wp_store 0 sh rfl rfl rfl rfl (by kernel_rfl) (Nat.le_of_ble_eq_true rfl) rfl ?_ | refine Hp.wp_store 1 sh rfl rfl rfl rfl (by kernel_rfl) (Nat.le_of_ble_eq_true rfl) rfl ?_ | refine Hp.wp_store 2 sh rfl rfl rfl rfl (by kernel_rfl) (Nat.le_of_ble_eq_true rfl) rfl ?_ | refine Hp.wp_store 3 sh rfl rfl rfl rfl (by kernel_rfl) (Nat.le_of_ble_eq_true rfl) rfl ?_ | refine Hp.wp_store 4 sh rfl rfl rfl rfl (by kernel_rfl) (Nat.le_of_ble_eq_true rfl) rfl ?_ | refine Hp.wp_store 5 sh rfl rfl rfl rfl (by kernel_rfl) (Nat.le_of_ble_eq_true rfl) rfl ?_ | refine Hp.wp_store 6 sh rfl rfl rfl rfl (by kernel_rfl) (Nat.le_of_ble_eq_true rfl) rfl ?_); clear sh; (try clear F); go_simp; intro w1 sh; have F := sh.facts; (try simp only [Hp.Facts, Hp.CellsAt, Nat.reduceAdd, List.cons_append, List.nil_append] at F))
          | fail)
      go_ret
      exact ⟨rfl, sh.below⟩

set_option maxHeartbeats 4000000 in
set_option maxRecDepth 100000 in
theorem ends2e (p0 p1 p2 : Int) (cs : Option Addr) (cn cc : Nat) (q : Nat) (h1 : q ≤ 100)  (w : World) :
    Calls Try.prog 5 #[.agg #[.int .i64 p0, .int .i64 p1, .int .i64 p2, .slice cs cn cc, .int .i64 2, .int .i64 (q : Int)], .int .i64 ((q : Int) + 1)] w fun e w' => e = .returned (.bool true) ∧ Below w.heap.size w w' := by
  have sh : Hp.Sh w w [] (fun _ => True) := Hp.Sh.start (fun _ _ => trivial)
  have HH := Lib.hid (fun W => hhealthy W)
  have HA := Lib.hid (fun w0 W H D (sh : Hp.Sh w0 W H D) => (hall p0 p1 p2 cs cn cc 2 (q : Int) ((q : Int) + 1) W (by omega) (by omega) (by omega)).mono fun e w' h => HeaP.AllP.sht sh h (f := (q : Int) + 1) (a := (q : Int)) (d := true) (l := List.replicate q 2 ++ [3]) (n := (q + 1)) (HeaP.all2d h1 _ (by omega)) (by simp))
  have HI := Lib.hid (fun W => his p0 p1 p2 cs cn cc 2 (q : Int) 0 0 false W (by omega) (by omega) (by omega) (by omega))
  rw [HeaP.ok_mk (by omega)] at HI
  have HJ := Lib.hid (fun W => his p0 p1 p2 cs cn cc 2 (q : Int) ((q : Int) + 1) ((q : Int)) true W (by omega) (by omega) (by omega) (by omega))
  rw [HeaP.ok_mk (by omega)] at HJ
  have hm1 : ¬ (1000 < (q : Int) + 1) := by omega
  have hm2 : ¬ ((q : Int) + 1 < 0) := by omega
  go_enter Try.func5, Try.ntmps5
  have tok_bp : True := trivial
  go_wp2_with (first
      | ((have tok := tok_bp); clear tok tok_bp; (first | (with_reducible refine Hp.wpl_box sh ?_ ?_) | (with_reducible refine Hp.wpl_alloc Try.z_health sh ?_ ?_) | (with_reducible refine Hp.wpl_alloc Try.z_part sh ?_ ?_)); exact rfl; clear sh; (try clear F); go_simp; intro bp w1 sh; have F := sh.facts; (try simp only [Hp.Facts, Hp.CellsAt, Nat.reduceAdd, List.cons_append, List.nil_append] at F))
      | ((with_reducible refine Hp.wpl_box sh ?_ ?_); exact rfl; clear sh; (try clear F); go_simp; intro b w1 sh; have F := sh.facts; (try simp only [Hp.Facts, Hp.CellsAt, Nat.reduceAdd, List.cons_append, List.nil_append] at F))
      | ((with_reducible refine Hp.wpl_alloc Try.z_health sh ?_ ?_); exact rfl; clear sh; (try clear F); go_simp; intro b w1 sh; have F := sh.facts; (try simp only [Hp.Facts, Hp.CellsAt, Nat.reduceAdd, List.cons_append, List.nil_append] at F))
      | ((with_reducible refine Hp.wpl_alloc Try.z_part sh ?_ ?_); exact rfl; clear sh; (try clear F); go_simp; intro b w1 sh; have F := sh.facts; (try simp only [Hp.Facts, Hp.CellsAt, Nat.reduceAdd, List.cons_append, List.nil_append] at F))
      | ((with_reducible refine Hp.atl_store ?_ ?_); exact rfl; (first | refine Hp.wp_store 0 sh rfl rfl rfl rfl (by kernel_rfl) (Nat.le_of_ble_eq_true rfl) rfl ?_ | refine Hp.wp_store 1 sh rfl rfl rfl rfl (by kernel_rfl) (Nat.le_of_ble_eq_true rfl) rfl ?_ | refine Hp.wp_store 2 sh rfl rfl rfl rfl (by kernel_rfl) (Nat.le_of_ble_eq_true rfl) rfl ?_ | refine Hp.wp_store 3 sh rfl rfl rfl rfl (by kernel_rfl) (Nat.le_of_ble_eq_true rfl) rfl ?_ | refine Hp.wp_store 4 sh rfl rfl rfl rfl (by kernel_rfl) (Nat.le_of_ble_eq_true rfl) rfl ?_ | refine Hp.wp_store 5 sh rfl rfl rfl rfl (by kernel_rfl) (Nat.le_of_ble_eq_true rfl) rfl ?_ | refine Hp.wp_store 6 sh rfl rfl rfl rfl (by kernel_rfl) (Nat.le_of_ble_eq_true rfl) rfl ?_); clear sh; (try clear F); go_simp; intro w1 sh; have F := sh.facts; (try simp only [Hp.Facts, Hp.CellsAt, Nat.reduceAdd, List.cons_append, List.nil_append] at F))
      | fail)
  go_fit (HA.out w _ _ _ sh)
  clear sh; (try clear F)
  rintro e w1 ⟨s, c, rfl, sh⟩
  have F := sh.facts; (try simp only [Hp.Facts, Hp.CellsAt, Nat.reduceAdd, List.cons_append, List.nil_append] at F)
  have tok_bh : True := trivial
  go_wp2_with (first
      | ((have tok := tok_bh); clear tok tok_bh; (first | (with_reducible refine Hp.wpl_box sh ?_ ?_) | (with_reducible refine Hp.wpl_alloc Try.z_health sh ?_ ?_) | (with_reducible refine Hp.wpl_alloc Try.z_part sh ?_ ?_)); exact rfl; clear sh; (try clear F); go_simp; intro bh w1 sh; have F := sh.facts; (try simp only [Hp.Facts, Hp.CellsAt, Nat.reduceAdd, List.cons_append, List.nil_append] at F))
      | ((with_reducible refine Hp.wpl_box sh ?_ ?_); exact rfl; clear sh; (try clear F); go_simp; intro b w1 sh; have F := sh.facts; (try simp only [Hp.Facts, Hp.CellsAt, Nat.reduceAdd, List.cons_append, List.nil_append] at F))
      | ((with_reducible refine Hp.wpl_alloc Try.z_health sh ?_ ?_); exact rfl; clear sh; (try clear F); go_simp; intro b w1 sh; have F := sh.facts; (try simp only [Hp.Facts, Hp.CellsAt, Nat.reduceAdd, List.cons_append, List.nil_append] at F))
      | ((with_reducible refine Hp.wpl_alloc Try.z_part sh ?_ ?_); exact rfl; clear sh; (try clear F); go_simp; intro b w1 sh; have F := sh.facts; (try simp only [Hp.Facts, Hp.CellsAt, Nat.reduceAdd, List.cons_append, List.nil_append] at F))
      | ((with_reducible refine Hp.atl_store ?_ ?_); exact rfl; (first | refine Hp.wp_store 0 sh rfl rfl rfl rfl (by kernel_rfl) (Nat.le_of_ble_eq_true rfl) rfl ?_ | refine Hp.wp_store 1 sh rfl rfl rfl rfl (by kernel_rfl) (Nat.le_of_ble_eq_true rfl) rfl ?_ | refine Hp.wp_store 2 sh rfl rfl rfl rfl (by kernel_rfl) (Nat.le_of_ble_eq_true rfl) rfl ?_ | refine Hp.wp_store 3 sh rfl rfl rfl rfl (by kernel_rfl) (Nat.le_of_ble_eq_true rfl) rfl ?_ | refine Hp.wp_store 4 sh rfl rfl rfl rfl (by kernel_rfl) (Nat.le_of_ble_eq_true rfl) rfl ?_ | refine Hp.wp_store 5 sh rfl rfl rfl rfl (by kernel_rfl) (Nat.le_of_ble_eq_true rfl) rfl ?_ | refine Hp.wp_store 6 sh rfl rfl rfl rfl (by kernel_rfl) (Nat.le_of_ble_eq_true rfl) rfl ?_); clear sh; (try clear F); go_simp; intro w1 sh; have F := sh.facts; (try simp only [Hp.Facts, Hp.CellsAt, Nat.reduceAdd, List.cons_append, List.nil_append] at F))
      | fail)
  go_fit (HI.out _)
  rintro e w1 ⟨rfl, hb⟩
  replace sh := sh.call hb; clear hb; (try clear F); have F := sh.facts; (try simp only [Hp.Facts, Hp.CellsAt, Nat.reduceAdd, List.cons_append, List.nil_append] at F)
  go_wp2_with (first
      | ((with_reducible refine Hp.wpl_box sh ?_ ?_); exact rfl; clear sh; (try clear F); go_simp; intro b w1 sh; have F := sh.facts; (try simp only [Hp.Facts, Hp.CellsAt, Nat.reduceAdd, List.cons_append, List.nil_append] at F))
      | ((with_reducible refine Hp.wpl_alloc Try.z_health sh ?_ ?_); exact rfl; clear sh; (try clear F); go_simp; intro b w1 sh; have F := sh.facts; (try simp only [Hp.Facts, Hp.CellsAt, Nat.reduceAdd, List.cons_append, List.nil_append] at F))
      | ((with_reducible refine Hp.wpl_alloc Try.z_part sh ?_ ?_); exact rfl; clear sh; (try clear F); go_simp; intro b w1 sh; have F := sh.facts; (try simp only [Hp.Facts, Hp.CellsAt, Nat.reduceAdd, List.cons_append, List.nil_append] at F))
      | ((with_reducible refine Hp.atl_store ?_ ?_); exact rfl; (first | refine Hp.wp_store 0 sh rfl rfl rfl rfl (by kernel_rfl) (Nat.le_of_ble_eq_true rfl) rfl ?_ | refine Hp.wp_store 1 sh rfl rfl rfl rfl (by kernel_rfl) (Nat.le_of_ble_eq_true rfl) rfl ?_ | refine Hp.wp_store 2 sh rfl rfl rfl rfl (by kernel_rfl) (Nat.le_of_ble_eq_true rfl) rfl ?_ | refine Hp.wp_store 3 sh rfl rfl rfl rfl (by kernel_rfl) (Nat.le_of_ble_eq_true rfl) rfl ?_ | refine Hp.wp_store 4 sh rfl rfl rfl rfl (by kernel_rfl) (Nat.le_of_ble_eq_true rfl) rfl ?_ | refine Hp.wp_store 5 sh rfl rfl rfl rfl (by kernel_rfl) (Nat.le_of_ble_eq_true rfl) rfl ?_ | refine Hp.wp_store 6 sh rfl rfl rfl rfl (by kernel_rfl) (Nat.le_of_ble_eq_true rfl) rfl ?_); clear sh; (try clear F); go_simp; intro w1 sh; have F := sh.facts; (try simp only [Hp.Facts, Hp.CellsAt, Nat.reduceAdd, List.cons_append, List.nil_append] at F))
      | fail)
  go_fit (HJ.out _)
  rintro e w1 ⟨rfl, hb⟩
  replace sh := sh.call hb; clear hb; (try clear F); have F := sh.facts; (try simp only [Hp.Facts, Hp.CellsAt, Nat.reduceAdd, List.cons_append, List.nil_append] at F)
  go_wp2_with (first
      | ((with_reducible refine Hp.wpl_box sh ?_ ?_); exact rfl; clear sh; (try clear F); go_simp; intro b w1 sh; have F := sh.facts; (try simp only [Hp.Facts, Hp.CellsAt, Nat.reduceAdd, List.cons_append, List.nil_append] at F))
      | ((with_reducible refine Hp.wpl_alloc Try.z_health sh ?_ ?_); exact rfl; clear sh; (try clear F); go_simp; intro b w1 sh; have F := sh.facts; (try simp only [Hp.Facts, Hp.CellsAt, Nat.reduceAdd, List.cons_append, List.nil_append] at F))
      | ((with_reducible refine Hp.wpl_alloc Try.z_part sh ?_ ?_); exact rfl; clear sh; (try clear F); go_simp; intro b w1 sh; have F := sh.facts; (try simp only [Hp.Facts, Hp.CellsAt, Nat.reduceAdd, List.cons_append, List.nil_append] at F))
      | ((with_reducible refine Hp.atl_store ?_ ?_); exact rfl; (first | refine Hp.wp_store 0 sh rfl rfl rfl rfl (by kernel_rfl) (Nat.le_of_ble_eq_true rfl) rfl ?_ | refine Hp.wp_store 1 sh rfl rfl rfl rfl (by kernel_rfl) (Nat.le_of_ble_eq_true rfl) rfl ?_ | refine Hp.wp_store 2 sh rfl rfl rfl rfl (by kernel_rfl) (Nat.le_of_ble_eq_true rfl) rfl ?_ | refine Hp.wp_store 3 sh rfl rfl rfl rfl (by kernel_rfl) (Nat.le_of_ble_eq_true rfl) rfl ?_ | refine Hp.wp_store 4 sh rfl rfl rfl rfl (by kernel_rfl) (Nat.le_of_ble_eq_true rfl) rfl ?_ | refine Hp.wp_store 5 sh rfl rfl rfl rfl (by kernel_rfl) (Nat.le_of_ble_eq_true rfl) rfl ?_ | refine Hp.wp_store 6 sh rfl rfl rfl rfl (by kernel_rfl) (Nat.le_of_ble_eq_true rfl) rfl ?_); clear sh; (try clear F); go_simp; intro w1 sh; have F := sh.facts; (try simp only [Hp.Facts, Hp.CellsAt, Nat.reduceAdd, List.cons_append, List.nil_append] at F))
      | fail)
  go_loopw [8, 9] (fun g i wr => ∃ (k g' : Nat), g = .int .i64 g' ∧ i = .int .i64 k ∧ k ≤ (q + 1) ∧ ((k ≤ q → g' = k) ∧ (q < k → g' = q)) ∧ Hp.Sh w wr [(bh, #[.int .i64 ((q : Int) + 1), .int .i64 ((q : Int)), .bool true], 26), (bp, #[.int .i64 p0, .int .i64 p1, .int .i64 p2, .slice cs cn cc, .int .i64 2, .int .i64 (q : Int)], 24)] (fun W => Hp.RdV W s (nums (List.replicate q 2 ++ [3])))) (fun _ i _ => (q + 1) - (intOf i).toNat)
  case atStart => exact ⟨0, 0, rfl, rfl, by omega, by omega, by first | exact sh | exact sh.imp fun W h => h.1⟩
  case round =>
    clear sh F
    obtain ⟨k, g, rfl, rfl, hk, hg, sh⟩ := hrel
    have F := sh.facts; (try simp only [Hp.Facts, Hp.CellsAt, Nat.reduceAdd, List.cons_append, List.nil_append] at F)
    by_cases hlt : k < (q + 1)
    · have hlI : (k : Int) < (((q + 1) : Nat) : Int) := by omega
      obtain ⟨p, rfl, -⟩ := sh.data (by simp [nums]; try omega)
      by_cases hkq : k < q
      · have hc1 := sh.data.cell k (v := .int .i64 2) (by simp [nums, List.getElem?_append, List.getElem?_replicate, hkq])
        have hne : ((k : Int) == (q : Int)) = false := by rw [beq_eq_false_iff_ne]; omega
        go_wp2_with (first
            | ((with_reducible refine Hp.wpl_box sh ?_ ?_); exact rfl; clear sh; (try clear F); go_simp; intro b w1 sh; have F := sh.facts; (try simp only [Hp.Facts, Hp.CellsAt, Nat.reduceAdd, List.cons_append, List.nil_append] at F))
            | ((with_reducible refine Hp.wpl_alloc Try.z_health sh ?_ ?_); exact rfl; clear sh; (try clear F); go_simp; intro b w1 sh; have F := sh.facts; (try simp only [Hp.Facts, Hp.CellsAt, Nat.reduceAdd, List.cons_append, List.nil_append] at F))
            | ((with_reducible refine Hp.wpl_alloc Try.z_part sh ?_ ?_); exact rfl; clear sh; (try clear F); go_simp; intro b w1 sh; have F := sh.facts; (try simp only [Hp.Facts, Hp.CellsAt, Nat.reduceAdd, List.cons_append, List.nil_append] at F))
            | ((with_reducible refine Hp.atl_store ?_ ?_); exact rfl; (first | refine Hp.wp_store 0 sh rfl rfl rfl rfl (by kernel_rfl) (Nat.le_of_ble_eq_true rfl) rfl ?_ | refine Hp.wp_store 1 sh rfl rfl rfl rfl (by kernel_rfl) (Nat.le_of_ble_eq_true rfl) rfl ?_ | refine Hp.wp_store 2 sh rfl rfl rfl rfl (by kernel_rfl) (Nat.le_of_ble_eq_true rfl) rfl ?_ | refine Hp.wp_store 3 sh rfl rfl rfl rfl (by kernel_rfl) (Nat.le_of_ble_eq_true rfl) rfl ?_ | refine Hp.wp_store 4 sh rfl rfl rfl rfl (by kernel_rfl) (Nat.le_of_ble_eq_true rfl) rfl ?_ | refine Hp.wp_store 5 sh rfl rfl rfl rfl (by kernel_rfl) (Nat.le_of_ble_eq_true rfl) rfl ?_ | refine Hp.wp_store 6 sh rfl rfl rfl rfl (by kernel_rfl) (Nat.le_of_ble_eq_true rfl) rfl ?_); clear sh; (try clear F); go_simp; intro w1 sh; have F := sh.facts; (try simp only [Hp.Facts, Hp.CellsAt, Nat.reduceAdd, List.cons_append, List.nil_append] at F))
            | fail)
        go_quiet (fail)
        go_wp2
        go_roundw
        case rel => exact ⟨k + 1, g + 1, by go_num, by go_num, by omega, by omega, sh.drewN _⟩
        case measure => simp [intOf] <;> omega
      · obtain rfl : k = q := by omega
        have hc1 := sh.data.cell k (v := .int .i64 3) (by simp [nums])
        skip
        go_wp2_with (first
            | ((with_reducible refine Hp.wpl_box sh ?_ ?_); exact rfl; clear sh; (try clear F); go_simp; intro b w1 sh; have F := sh.facts; (try simp only [Hp.Facts, Hp.CellsAt, Nat.reduceAdd, List.cons_append, List.nil_append] at F))
            | ((with_reducible refine Hp.wpl_alloc Try.z_health sh ?_ ?_); exact rfl; clear sh; (try clear F); go_simp; intro b w1 sh; have F := sh.facts; (try simp only [Hp.Facts, Hp.CellsAt, Nat.reduceAdd, List.cons_append, List.nil_append] at F))
            | ((with_reducible refine Hp.wpl_alloc Try.z_part sh ?_ ?_); exact rfl; clear sh; (try clear F); go_simp; intro b w1 sh; have F := sh.facts; (try simp only [Hp.Facts, Hp.CellsAt, Nat.reduceAdd, List.cons_append, List.nil_append] at F))
            | ((with_reducible refine Hp.atl_store ?_ ?_); exact rfl; (first | refine Hp.wp_store 0 sh rfl rfl rfl rfl (by kernel_rfl) (Nat.le_of_ble_eq_true rfl) rfl ?_ | refine Hp.wp_store 1 sh rfl rfl rfl rfl (by kernel_rfl) (Nat.le_of_ble_eq_true rfl) rfl ?_ | refine Hp.wp_store 2 sh rfl rfl rfl rfl (by kernel_rfl) (Nat.le_of_ble_eq_true rfl) rfl ?_ | refine Hp.wp_store 3 sh rfl rfl rfl rfl (by kernel_rfl) (Nat.le_of_ble_eq_true rfl) rfl ?_ | refine Hp.wp_store 4 sh rfl rfl rfl rfl (by kernel_rfl) (Nat.le_of_ble_eq_true rfl) rfl ?_ | refine Hp.wp_store 5 sh rfl rfl rfl rfl (by kernel_rfl) (Nat.le_of_ble_eq_true rfl) rfl ?_ | refine Hp.wp_store 6 sh rfl rfl rfl rfl (by kernel_rfl) (Nat.le_of_ble_eq_true rfl) rfl ?_); clear sh; (try clear F); go_simp; intro w1 sh; have F := sh.facts; (try simp only [Hp.Facts, Hp.CellsAt, Nat.reduceAdd, List.cons_append, List.nil_append] at F))
            | fail)
        go_quiet (fail)
        go_wp2
        go_roundw
        case rel => exact ⟨k + 1, g, by go_num, by go_num, by omega, by omega, sh.drewN _⟩
        case measure => simp [intOf] <;> omega
    · obtain rfl : k = (q + 1) := by omega
      obtain rfl : g = q := by omega
      go_wp2_with (first
          | ((with_reducible refine Hp.wpl_box sh ?_ ?_); exact rfl; clear sh; (try clear F); go_simp; intro b w1 sh; have F := sh.facts; (try simp only [Hp.Facts, Hp.CellsAt, Nat.reduceAdd, List.cons_append, List.nil_append] at F))
          | ((with_reducible refine Hp.wpl_alloc Try.z_health sh ?_ ?_); exact rfl; clear sh; (try clear F); go_simp; intro b w1 sh; have F := sh.facts; (try simp only [Hp.Facts, Hp.CellsAt, Nat.reduceAdd, List.cons_append, List.nil_append] at F))
          | ((with_reducible refine Hp.wpl_alloc Try.z_part sh ?_ ?_); exact rfl; clear sh; (try clear F); go_simp; intro b w1 sh; have F := sh.facts; (try simp only [Hp.Facts, Hp.CellsAt, Nat.reduceAdd, List.cons_append, List.nil_append] at F))
          | ((with_reducible refine Hp.atl_store ?_ ?_); exact rfl; (first | refine Hp.wp_store 0 sh rfl rfl rfl rfl (by kernel_rfl) (Nat.le_of_ble_eq_true rfl) rfl ?_ | refine Hp.wp_store 1 sh rfl rfl rfl rfl (by kernel_rfl) (Nat.le_of_ble_eq_true rfl) rfl ?_ | refine Hp.wp_store 2 sh rfl rfl rfl rfl (by kernel_rfl) (Nat.le_of_ble_eq_true rfl) rfl ?_ | refine Hp.wp_store 3 sh rfl rfl rfl rfl (by kernel_rfl) (Nat.le_of_ble_eq_true rfl) rfl ?_ | refine Hp.wp_store 4 sh rfl rfl rfl rfl (by kernel_rfl) (Nat.le_of_ble_eq_true rfl) rfl ?_ | refine Hp.wp_store 5 sh rfl rfl rfl rfl (by kernel_rfl) (Nat.le_of_ble_eq_true rfl) rfl ?_ | refine Hp.wp_store 6 sh rfl rfl rfl rfl (by kernel_rfl) (Nat.le_of_ble_eq_true rfl) rfl ?_); clear sh; (try clear F); go_simp; intro w1 sh; have F := sh.facts; (try simp only [Hp.Facts, Hp.CellsAt, Nat.reduceAdd, List.cons_append, List.nil_append] at F))
          | fail)
      go_fit (HH.out _)
      rintro e w1 ⟨rfl, hb⟩
      replace sh := sh.call hb; clear hb; (try clear F); have F := sh.facts; (try simp only [Hp.Facts, Hp.CellsAt, Nat.reduceAdd, List.cons_append, List.nil_append] at F)
      go_wp2_with (first
          | ((with_reducible refine Hp.wpl_box sh ?_ ?_); exact rfl; clear sh; (try clear F); go_simp; intro b w1 sh; have F := sh.facts; (try simp only [Hp.Facts, Hp.CellsAt, Nat.reduceAdd, List.cons_append, List.nil_append] at F))
          | ((with_reducible refine Hp.wpl_alloc Try.z_health sh ?_ ?_); exact rfl; clear sh; (try clear F); go_simp; intro b w1 sh; have F := sh.facts; (try simp only [Hp.Facts, Hp.CellsAt, Nat.reduceAdd, List.cons_append, List.nil_append] at F))
          | ((with_reducible refine Hp.wpl_alloc Try.z_part sh ?_ ?_); exact rfl; clear sh; (try clear F); go_simp; intro b w1 sh; have F := sh.facts; (try simp only [Hp.Facts, Hp.CellsAt, Nat.reduceAdd, List.cons_append, List.nil_append] at F))
          | ((with_reducible refine Hp.atl_store ?_ ?_); exact rfl; (first | refine Hp.wp_store 0 sh rfl rfl rfl rfl (by kernel_rfl) (Nat.le_of_ble_eq_true rfl) rfl ?_ | refine Hp.wp_store 1 sh rfl rfl rfl rfl (by kernel_rfl) (Nat.le_of_ble_eq_true rfl) rfl ?_ | refine Hp.wp_store 2 sh rfl rfl rfl rfl (by kernel_rfl) (Nat.le_of_ble_eq_true rfl) rfl ?_ | refine Hp.wp_store 3 sh rfl rfl rfl rfl (by kernel_rfl) (Nat.le_of_ble_eq_true rfl) rfl ?_ | refine Hp.wp_store 4 sh rfl rfl rfl rfl (by kernel_rfl) (Nat.le_of_ble_eq_true rfl) rfl ?_ | refine Hp.wp_store 5 sh rfl rfl rfl rfl (by kernel_rfl) (Nat.le_of_ble_eq_true rfl) rfl ?_ | refine Hp.wp_store 6 sh rfl rfl rfl rfl (by kernel_rfl) (Nat.le_of_ble_eq_true rfl) rfl ?_); clear sh; (try clear F); go_simp; intro w1 sh; have F := sh.facts; (try simp only [Hp.Facts, Hp.CellsAt, Nat.reduceAdd, List.cons_append, List.nil_append] at F))
          | fail)
      go_ret
      exact ⟨rfl, sh.below⟩

set_option maxHeartbeats 4000000 in
set_option maxRecDepth 100000 in
theorem ends3 (p0 p1 p2 : Int) (cs : Option Addr) (cn cc : Nat) (ag : Int) (h0 : 0 ≤ ag) (h1 : ag ≤ 100) (n : Int) (hn : 1 < n) (hn2 : n ≤ 1000) (w : World) :
    Calls Try.prog 5 #[.agg #[.int .i64 p0, .int .i64 p1, .int .i64 p2, .slice cs cn cc, .int .i64 3, .int .i64 ag], .int .i64 n] w fun e w' => e = .returned (.bool true) ∧ Below w.heap.size w w' := by
  have sh : Hp.Sh w w [] (fun _ => True) := Hp.Sh.start (fun _ _ => trivial)
  have HH := Lib.hid (fun W => hhealthy W)
  have HA := Lib.hid (fun w0 W H D (sh : Hp.Sh w0 W H D) => (hall p0 p1 p2 cs cn cc 3 ag n W (by omega) (by omega) (by omega)).mono fun e w' h => HeaP.AllP.sht sh h (f := 1) (a := 0) (d := true) (l := [3]) (n := 1) (HeaP.all3 h0 h1 _ (by omega)) (by simp))
  have HI := Lib.hid (fun W => his p0 p1 p2 cs cn cc 3 ag 0 0 false W (by omega) (by omega) (by omega) (by omega))
  rw [HeaP.ok_mk (by omega)] at HI
  have HJ := Lib.hid (fun W => his p0 p1 p2 cs cn cc 3 ag (1) (0) true W (by omega) (by omega) (by omega) (by omega))
  rw [HeaP.ok_mk (by omega)] at HJ
  have hm1 : ¬ (1000 < n) := by omega
  have hm2 : ¬ (n < 0) := by omega
  have hm4 : 1 ≤ n := by omega
  go_enter Try.func5, Try.ntmps5
  have tok_bp : True := trivial
  go_wp2_with (first
      | ((have tok := tok_bp); clear tok tok_bp; (first | (with_reducible refine Hp.wpl_box sh ?_ ?_) | (with_reducible refine Hp.wpl_alloc Try.z_health sh ?_ ?_) | (with_reducible refine Hp.wpl_alloc Try.z_part sh ?_ ?_)); exact rfl; clear sh; (try clear F); go_simp; intro bp w1 sh; have F := sh.facts; (try simp only [Hp.Facts, Hp.CellsAt, Nat.reduceAdd, List.cons_append, List.nil_append] at F))
      | ((with_reducible refine Hp.wpl_box sh ?_ ?_); exact rfl; clear sh; (try clear F); go_simp; intro b w1 sh; have F := sh.facts; (try simp only [Hp.Facts, Hp.CellsAt, Nat.reduceAdd, List.cons_append, List.nil_append] at F))
      | ((with_reducible refine Hp.wpl_alloc Try.z_health sh ?_ ?_); exact rfl; clear sh; (try clear F); go_simp; intro b w1 sh; have F := sh.facts; (try simp only [Hp.Facts, Hp.CellsAt, Nat.reduceAdd, List.cons_append, List.nil_append] at F))
      | ((with_reducible refine Hp.wpl_alloc Try.z_part sh ?_ ?_); exact rfl; clear sh; (try clear F); go_simp; intro b w1 sh; have F := sh.facts; (try simp only [Hp.Facts, Hp.CellsAt, Nat.reduceAdd, List.cons_append, List.nil_append] at F))
      | ((with_reducible refine Hp.atl_store ?_ ?_); exact rfl; (first | refine Hp.wp_store 0 sh rfl rfl rfl rfl (by kernel_rfl) (Nat.le_of_ble_eq_true rfl) rfl ?_ | refine Hp.wp_store 1 sh rfl rfl rfl rfl (by kernel_rfl) (Nat.le_of_ble_eq_true rfl) rfl ?_ | refine Hp.wp_store 2 sh rfl rfl rfl rfl (by kernel_rfl) (Nat.le_of_ble_eq_true rfl) rfl ?_ | refine Hp.wp_store 3 sh rfl rfl rfl rfl (by kernel_rfl) (Nat.le_of_ble_eq_true rfl) rfl ?_ | refine Hp.wp_store 4 sh rfl rfl rfl rfl (by kernel_rfl) (Nat.le_of_ble_eq_true rfl) rfl ?_ | refine Hp.wp_store 5 sh rfl rfl rfl rfl (by kernel_rfl) (Nat.le_of_ble_eq_true rfl) rfl ?_ | refine Hp.wp_store 6 sh rfl rfl rfl rfl (by kernel_rfl) (Nat.le_of_ble_eq_true rfl) rfl ?_); clear sh; (try clear F); go_simp; intro w1 sh; have F := sh.facts; (try simp only [Hp.Facts, Hp.CellsAt, Nat.reduceAdd, List.cons_append, List.nil_append] at F))
      | fail)
  go_fit (HA.out w _ _ _ sh)
  clear sh; (try clear F)
  rintro e w1 ⟨s, c, rfl, sh⟩
  have F := sh.facts; (try simp only [Hp.Facts, Hp.CellsAt, Nat.reduceAdd, List.cons_append, List.nil_append] at F)
  have tok_bh : True := trivial
  go_wp2_with (first
      | ((have tok := tok_bh); clear tok tok_bh; (first | (with_reducible refine Hp.wpl_box sh ?_ ?_) | (with_reducible refine Hp.wpl_alloc Try.z_health sh ?_ ?_) | (with_reducible refine Hp.wpl_alloc Try.z_part sh ?_ ?_)); exact rfl; clear sh; (try clear F); go_simp; intro bh w1 sh; have F := sh.facts; (try simp only [Hp.Facts, Hp.CellsAt, Nat.reduceAdd, List.cons_append, List.nil_append] at F))
      | ((with_reducible refine Hp.wpl_box sh ?_ ?_); exact rfl; clear sh; (try clear F); go_simp; intro b w1 sh; have F := sh.facts; (try simp only [Hp.Facts, Hp.CellsAt, Nat.reduceAdd, List.cons_append, List.nil_append] at F))
      | ((with_reducible refine Hp.wpl_alloc Try.z_health sh ?_ ?_); exact rfl; clear sh; (try clear F); go_simp; intro b w1 sh; have F := sh.facts; (try simp only [Hp.Facts, Hp.CellsAt, Nat.reduceAdd, List.cons_append, List.nil_append] at F))
      | ((with_reducible refine Hp.wpl_alloc Try.z_part sh ?_ ?_); exact rfl; clear sh; (try clear F); go_simp; intro b w1 sh; have F := sh.facts; (try simp only [Hp.Facts, Hp.CellsAt, Nat.reduceAdd, List.cons_append, List.nil_append] at F))
      | ((with_reducible refine Hp.atl_store ?_ ?_); exact rfl; (first | refine Hp.wp_store 0 sh rfl rfl rfl rfl (by kernel_rfl) (Nat.le_of_ble_eq_true rfl) rfl ?_ | refine Hp.wp_store 1 sh rfl rfl rfl rfl (by kernel_rfl) (Nat.le_of_ble_eq_true rfl) rfl ?_ | refine Hp.wp_store 2 sh rfl rfl rfl rfl (by kernel_rfl) (Nat.le_of_ble_eq_true rfl) rfl ?_ | refine Hp.wp_store 3 sh rfl rfl rfl rfl (by kernel_rfl) (Nat.le_of_ble_eq_true rfl) rfl ?_ | refine Hp.wp_store 4 sh rfl rfl rfl rfl (by kernel_rfl) (Nat.le_of_ble_eq_true rfl) rfl ?_ | refine Hp.wp_store 5 sh rfl rfl rfl rfl (by kernel_rfl) (Nat.le_of_ble_eq_true rfl) rfl ?_ | refine Hp.wp_store 6 sh rfl rfl rfl rfl (by kernel_rfl) (Nat.le_of_ble_eq_true rfl) rfl ?_); clear sh; (try clear F); go_simp; intro w1 sh; have F := sh.facts; (try simp only [Hp.Facts, Hp.CellsAt, Nat.reduceAdd, List.cons_append, List.nil_append] at F))
      | fail)
  go_fit (HI.out _)
  rintro e w1 ⟨rfl, hb⟩
  replace sh := sh.call hb; clear hb; (try clear F); have F := sh.facts; (try simp only [Hp.Facts, Hp.CellsAt, Nat.reduceAdd, List.cons_append, List.nil_append] at F)
  go_wp2_with (first
      | ((with_reducible refine Hp.wpl_box sh ?_ ?_); exact rfl; clear sh; (try clear F); go_simp; intro b w1 sh; have F := sh.facts; (try simp only [Hp.Facts, Hp.CellsAt, Nat.reduceAdd, List.cons_append, List.nil_append] at F))
      | ((with_reducible refine Hp.wpl_alloc Try.z_health sh ?_ ?_); exact rfl; clear sh; (try clear F); go_simp; intro b w1 sh; have F := sh.facts; (try simp only [Hp.Facts, Hp.CellsAt, Nat.reduceAdd, List.cons_append, List.nil_append] at F))
      | ((with_reducible refine Hp.wpl_alloc Try.z_part sh ?_ ?_); exact rfl; clear sh; (try clear F); go_simp; intro b w1 sh; have F := sh.facts; (try simp only [Hp.Facts, Hp.CellsAt, Nat.reduceAdd, List.cons_append, List.nil_append] at F))
      | ((with_reducible refine Hp.atl_store ?_ ?_); exact rfl; (first | refine Hp.wp_store 0 sh rfl rfl rfl rfl (by kernel_rfl) (Nat.le_of_ble_eq_true rfl) rfl ?_ | refine Hp.wp_store 1 sh rfl rfl rfl rfl (by kernel_rfl) (Nat.le_of_ble_eq_true rfl) rfl ?_ | refine Hp.wp_store 2 sh rfl rfl rfl rfl (by kernel_rfl) (Nat.le_of_ble_eq_true rfl) rfl ?_ | refine Hp.wp_store 3 sh rfl rfl rfl rfl (by kernel_rfl) (Nat.le_of_ble_eq_true rfl) rfl ?_ | refine Hp.wp_store 4 sh rfl rfl rfl rfl (by kernel_rfl) (Nat.le_of_ble_eq_true rfl) rfl ?_ | refine Hp.wp_store 5 sh rfl rfl rfl rfl (by kernel_rfl) (Nat.le_of_ble_eq_true rfl) rfl ?_ | refine Hp.wp_store 6 sh rfl rfl rfl rfl (by kernel_rfl) (Nat.le_of_ble_eq_true rfl) rfl ?_); clear sh; (try clear F); go_simp; intro w1 sh; have F := sh.facts; (try simp only [Hp.Facts, Hp.CellsAt, Nat.reduceAdd, List.cons_append, List.nil_append] at F))
      | fail)
  go_fit (HJ.out _)
  rintro e w1 ⟨rfl, hb⟩
  replace sh := sh.call hb; clear hb; (try clear F); have F := sh.facts; (try simp only [Hp.Facts, Hp.CellsAt, Nat.reduceAdd, List.cons_append, List.nil_append] at F)
  go_wp2_with (first
      | ((with_reducible refine Hp.wpl_box sh ?_ ?_); exact rfl; clear sh; (try clear F); go_simp; intro b w1 sh; have F := sh.facts; (try simp only [Hp.Facts, Hp.CellsAt, Nat.reduceAdd, List.cons_append, List.nil_append] at F))
      | ((with_reducible refine Hp.wpl_alloc Try.z_health sh ?_ ?_); exact rfl; clear sh; (try clear F); go_simp; intro b w1 sh; have F := sh.facts; (try simp only [Hp.Facts, Hp.CellsAt, Nat.reduceAdd, List.cons_append, List.nil_append] at F))
      | ((with_reducible refine Hp.wpl_alloc Try.z_part sh ?_ ?_); exact rfl; clear sh; (try clear F); go_simp; intro b w1 sh; have F := sh.facts; (try simp only [Hp.Facts, Hp.CellsAt, Nat.reduceAdd, List.cons_append, List.nil_append] at F))
      | ((with_reducible refine Hp.atl_store ?_ ?_); exact rfl; (first | refine Hp.wp_store 0 sh rfl rfl rfl rfl (by kernel_rfl) (Nat.le_of_ble_eq_true rfl) rfl ?_ | refine Hp.wp_store 1 sh rfl rfl rfl rfl (by kernel_rfl) (Nat.le_of_ble_eq_true rfl) rfl ?_ | refine Hp.wp_store 2 sh rfl rfl rfl rfl (by kernel_rfl) (Nat.le_of_ble_eq_true rfl) rfl ?_ | refine Hp.wp_store 3 sh rfl rfl rfl rfl (by kernel_rfl) (Nat.le_of_ble_eq_true rfl) rfl ?_ | refine Hp.wp_store 4 sh rfl rfl rfl rfl (by kernel_rfl) (Nat.le_of_ble_eq_true rfl) rfl ?_ | refine Hp.wp_store 5 sh rfl rfl rfl rfl (by kernel_rfl) (Nat.le_of_ble_eq_true rfl) rfl ?_ | refine Hp.wp_store 6 sh rfl rfl rfl rfl (by kernel_rfl) (Nat.le_of_ble_eq_true rfl) rfl ?_); clear sh; (try clear F); go_simp; intro w1 sh; have F := sh.facts; (try simp only [Hp.Facts, Hp.CellsAt, Nat.reduceAdd, List.cons_append, List.nil_append] at F))
      | fail)
  go_loopw [8, 9] (fun g i wr => ∃ (k g' : Nat), g = .int .i64 g' ∧ i = .int .i64 k ∧ k ≤ 1 ∧ g' = 0 ∧ Hp.Sh w wr [(bh, #[.int .i64 (1), .int .i64 (0), .bool true], 26), (bp, #[.int .i64 p0, .int .i64 p1, .int .i64 p2, .slice cs cn cc, .int .i64 3, .int .i64 ag], 24)] (fun W => Hp.RdV W s (nums ([3])))) (fun _ i _ => 1 - (intOf i).toNat)
  case atStart => exact ⟨0, 0, rfl, rfl, by omega, by omega, by first | exact sh | exact sh.imp fun W h => h.1⟩
  case round =>
    clear sh F
    obtain ⟨k, g, rfl, rfl, hk, hg, sh⟩ := hrel
    have F := sh.facts; (try simp only [Hp.Facts, Hp.CellsAt, Nat.reduceAdd, List.cons_append, List.nil_append] at F)
    by_cases hlt : k < 1
    · have hlI : (k : Int) < ((1 : Nat) : Int) := by omega
      obtain ⟨p, rfl, -⟩ := sh.data (by simp [nums]; try omega)
      have hk0 : k = 0 := by omega
      have hne : ((k : Int) == 0) = true := by simp [hk0]
      have hc1 := sh.data.cell k (v := .int .i64 3) (by simp [nums, hk0])
      clear hk0
      go_wp2_with (first
          | ((with_reducible refine Hp.wpl_box sh ?_ ?_); exact rfl; clear sh; (try clear F); go_simp; intro b w1 sh; have F := sh.facts; (try simp only [Hp.Facts, Hp.CellsAt, Nat.reduceAdd, List.cons_append, List.nil_append] at F))
          | ((with_reducible refine Hp.wpl_alloc Try.z_health sh ?_ ?_); exact rfl; clear sh; (try clear F); go_simp; intro b w1 sh; have F := sh.facts; (try simp only [Hp.Facts, Hp.CellsAt, Nat.reduceAdd, List.cons_append, List.nil_append] at F))
          | ((with_reducible refine Hp.wpl_alloc Try.z_part sh ?_ ?_); exact rfl; clear sh; (try clear F); go_simp; intro b w1 sh; have F := sh.facts; (try simp only [Hp.Facts, Hp.CellsAt, Nat.reduceAdd, List.cons_append, List.nil_append] at F))
          | ((with_reducible refine Hp.atl_store ?_ ?_); exact rfl; (first | refine Hp.wp_store 0 sh rfl rfl rfl rfl (by kernel_rfl) (Nat.le_of_ble_eq_true rfl) rfl ?_ | refine Hp.wp_store 1 sh rfl rfl rfl rfl (by kernel_rfl) (Nat.le_of_ble_eq_true rfl) rfl ?_ | refine Hp.wp_store 2 sh rfl rfl rfl rfl (by kernel_rfl) (Nat.le_of_ble_eq_true rfl) rfl ?_ | refine Hp.wp_store 3 sh rfl rfl rfl rfl (by kernel_rfl) (Nat.le_of_ble_eq_true rfl) rfl ?_ | refine Hp.wp_store 4 sh rfl rfl rfl rfl (by kernel_rfl) (Nat.le_of_ble_eq_true rfl) rfl ?_ | refine Hp.wp_store 5 sh rfl rfl rfl rfl (by kernel_rfl) (Nat.le_of_ble_eq_true rfl) rfl ?_ | refine Hp.wp_store 6 sh rfl rfl rfl rfl (by kernel_rfl) (Nat.le_of_ble_eq_true rfl) rfl ?_); clear sh; (try clear F); go_simp; intro w1 sh; have F := sh.facts; (try simp only [Hp.Facts, Hp.CellsAt, Nat.reduceAdd, List.cons_append, List.nil_append] at F))
          | fail)
      go_quiet (fail)
      go_wp2
      go_roundw
      case rel => exact ⟨k + 1, g, by go_num, by go_num, by omega, by omega, sh.drewN _⟩
      case measure => simp [intOf] <;> omega
    · obtain rfl : k = 1 := by omega
      subst hg
      go_wp2_with (first
          | ((with_reducible refine Hp.wpl_box sh ?_ ?_); exact rfl; clear sh; (try clear F); go_simp; intro b w1 sh; have F := sh.facts; (try simp only [Hp.Facts, Hp.CellsAt, Nat.reduceAdd, List.cons_append, List.nil_append] at F))
          | ((with_reducible refine Hp.wpl_alloc Try.z_health sh ?_ ?_); exact rfl; clear sh; (try clear F); go_simp; intro b w1 sh; have F := sh.facts; (try simp only [Hp.Facts, Hp.CellsAt, Nat.reduceAdd, List.cons_append, List.nil_append] at F))
          | ((with_reducible refine Hp.wpl_alloc Try.z_part sh ?_ ?_); exact rfl; clear sh; (try clear F); go_simp; intro b w1 sh; have F := sh.facts; (try simp only [Hp.Facts, Hp.CellsAt, Nat.reduceAdd, List.cons_append, List.nil_append] at F))
          | ((with_reducible refine Hp.atl_store ?_ ?_); exact rfl; (first | refine Hp.wp_store 0 sh rfl rfl rfl rfl (by kernel_rfl) (Nat.le_of_ble_eq_true rfl) rfl ?_ | refine Hp.wp_store 1 sh rfl rfl rfl rfl (by kernel_rfl) (Nat.le_of_ble_eq_true rfl) rfl ?_ | refine Hp.wp_store 2 sh rfl rfl rfl rfl (by kernel_rfl) (Nat.le_of_ble_eq_true rfl) rfl ?_ | refine Hp.wp_store 3 sh rfl rfl rfl rfl (by kernel_rfl) (Nat.le_of_ble_eq_true rfl) rfl ?_ | refine Hp.wp_store 4 sh rfl rfl rfl rfl (by kernel_rfl) (Nat.le_of_ble_eq_true rfl) rfl ?_ | refine Hp.wp_store 5 sh rfl rfl rfl rfl (by kernel_rfl) (Nat.le_of_ble_eq_true rfl) rfl ?_ | refine Hp.wp_store 6 sh rfl rfl rfl rfl (by kernel_rfl) (Nat.le_of_ble_eq_true rfl) rfl ?_); clear sh; (try clear F); go_simp; intro w1 sh; have F := sh.facts; (try simp only [Hp.Facts, Hp.CellsAt, Nat.reduceAdd, List.cons_append, List.nil_append] at F))
          | fail)
      go_fit (HH.out _)
      rintro e w1 ⟨rfl, hb⟩
      replace sh := sh.call hb; clear hb; (try clear F); have F := sh.facts; (try simp only [Hp.Facts, Hp.CellsAt, Nat.reduceAdd, List.cons_append, List.nil_append] at F)
      go_wp2_with (first
          | ((with_reducible refine Hp.wpl_box sh ?_ ?_); exact rfl; clear sh; (try clear F); go_simp; intro b w1 sh; have F := sh.facts; (try simp only [Hp.Facts, Hp.CellsAt, Nat.reduceAdd, List.cons_append, List.nil_append] at F))
          | ((with_reducible refine Hp.wpl_alloc Try.z_health sh ?_ ?_); exact rfl; clear sh; (try clear F); go_simp; intro b w1 sh; have F := sh.facts; (try simp only [Hp.Facts, Hp.CellsAt, Nat.reduceAdd, List.cons_append, List.nil_append] at F))
          | ((with_reducible refine Hp.wpl_alloc Try.z_part sh ?_ ?_); exact rfl; clear sh; (try clear F); go_simp; intro b w1 sh; have F := sh.facts; (try simp only [Hp.Facts, Hp.CellsAt, Nat.reduceAdd, List.cons_append, List.nil_append] at F))
          | ((with_reducible refine Hp.atl_store ?_ ?_); exact rfl; (first | refine Hp.wp_store 0 sh rfl rfl rfl rfl (by kernel_rfl) (Nat.le_of_ble_eq_true rfl) rfl ?_ | refine Hp.wp_store 1 sh rfl rfl rfl rfl (by kernel_rfl) (Nat.le_of_ble_eq_true rfl) rfl ?_ | refine Hp.wp_store 2 sh rfl rfl rfl rfl (by kernel_rfl) (Nat.le_of_ble_eq_true rfl) rfl ?_ | refine Hp.wp_store 3 sh rfl rfl rfl rfl (by kernel_rfl) (Nat.le_of_ble_eq_true rfl) rfl ?_ | refine Hp.wp_store 4 sh rfl rfl rfl rfl (by kernel_rfl) (Nat.le_of_ble_eq_true rfl) rfl ?_ | refine Hp.wp_store 5 sh rfl rfl rfl rfl (by kernel_rfl) (Nat.le_of_ble_eq_true rfl) rfl ?_ | refine Hp.wp_store 6 sh rfl rfl rfl rfl (by kernel_rfl) (Nat.le_of_ble_eq_true rfl) rfl ?_); clear sh; (try clear F); go_simp; intro w1 sh; have F := sh.facts; (try simp only [Hp.Facts, Hp.CellsAt, Nat.reduceAdd, List.cons_append, List.nil_append] at F))
          | fail)
      go_ret
      exact ⟨rfl, sh.below⟩

set_option maxHeartbeats 4000000 in
set_option maxRecDepth 100000 in
theorem ends3e (p0 p1 p2 : Int) (cs : Option Addr) (cn cc : Nat) (ag : Int) (h0 : 0 ≤ ag) (h1 : ag ≤ 100)  (w : World) :
    Calls Try.prog 5 #[.agg #[.int .i64 p0, .int .i64 p1, .int .i64 p2, .slice cs cn cc, .int .i64 3, .int .i64 ag], .int .i64 1] w fun e w' => e = .returned (.bool true) ∧ Below w.heap.size w w' := by
  have sh : Hp.Sh w w [] (fun _ => True) := Hp.Sh.start (fun _ _ => trivial)
  have HH := Lib.hid (fun W => hhealthy W)
  have HA := Lib.hid (fun w0 W H D (sh : Hp.Sh w0 W H D) => (hall p0 p1 p2 cs cn cc 3 ag 1 W (by omega) (by omega) (by omega)).mono fun e w' h => HeaP.AllP.sht sh h (f := 1) (a := 0) (d := true) (l := [3]) (n := 1) (HeaP.all3 h0 h1 _ (by omega)) (by simp))
  have HI := Lib.hid (fun W => his p0 p1 p2 cs cn cc 3 ag 0 0 false W (by omega) (by omega) (by omega) (by omega))
  rw [HeaP.ok_mk (by omega)] at HI
  have HJ := Lib.hid (fun W => his p0 p1 p2 cs cn cc 3 ag (1) (0) true W (by omega) (by omega) (by omega) (by omega))
  rw [HeaP.ok_mk (by omega)] at HJ
  skip
  go_enter Try.func5, Try.ntmps5
  have tok_bp : True := trivial
  go_wp2_with (first
      | ((have tok := tok_bp); clear tok tok_bp; (first | (with_reducible refine Hp.wpl_box sh ?_ ?_) | (with_reducible refine Hp.wpl_alloc Try.z_health sh ?_ ?_) | (with_reducible refine Hp.wpl_alloc Try.z_part sh ?_ ?_)); exact rfl; clear sh; (try clear F); go_simp; intro bp w1 sh; have F := sh.facts; (try simp only [Hp.Facts, Hp.CellsAt, Nat.reduceAdd, List.cons_append, List.nil_append] at F))
      | ((with_reducible refine Hp.wpl_box sh ?_ ?_); exact rfl; clear sh; (try clear F); go_simp; intro b w1 sh; have F := sh.facts; (try simp only [Hp.Facts, Hp.CellsAt, Nat.reduceAdd, List.cons_append, List.nil_append] at F))
      | ((with_reducible refine Hp.wpl_alloc Try.z_health sh ?_ ?_); exact rfl; clear sh; (try clear F); go_simp; intro b w1 sh; have F := sh.facts; (try simp only [Hp.Facts, Hp.CellsAt, Nat.reduceAdd, List.cons_append, List.nil_append] at F))
      | ((with_reducible refine Hp.wpl_alloc Try.z_part sh ?_ ?_); exact rfl; clear sh; (try clear F); go_simp; intro b w1 sh; have F := sh.facts; (try simp only [Hp.Facts, Hp.CellsAt, Nat.reduceAdd, List.cons_append, List.nil_append] at F))
      | ((with_reducible refine Hp.atl_store ?_ ?_); exact rfl; (first | refine Hp.wp_store 0 sh rfl rfl rfl rfl (by kernel_rfl) (Nat.le_of_ble_eq_true rfl) rfl ?_ | refine Hp.wp_store 1 sh rfl rfl rfl rfl (by kernel_rfl) (Nat.le_of_ble_eq_true rfl) rfl ?_ | refine Hp.wp_store 2 sh rfl rfl rfl rfl (by kernel_rfl) (Nat.le_of_ble_eq_true rfl) rfl ?_ | refine Hp.wp_store 3 sh rfl rfl rfl rfl (by kernel_rfl) (Nat.le_of_ble_eq_true rfl) rfl ?_ | refine Hp.wp_store 4 sh rfl rfl rfl rfl (by kernel_rfl) (Nat.le_of_ble_eq_true rfl) rfl ?_ | refine Hp.wp_store 5 sh rfl rfl rfl rfl (by kernel_rfl) (Nat.le_of_ble_eq_true rfl) rfl ?_ | refine Hp.wp_store 6 sh rfl rfl rfl rfl (by kernel_rfl) (Nat.le_of_ble_eq_true rfl) rfl ?_); clear sh; (try clear F); go_simp; intro w1 sh; have F := sh.facts; (try simp only [Hp.Facts, Hp.CellsAt, Nat.reduceAdd, List.cons_append, List.nil_append] at F))
      | fail)
  go_fit (HA.out w _ _ _ sh)
  clear sh; (try clear F)
  rintro e w1 ⟨s, c, rfl, sh⟩
  have F := sh.facts; (try simp only [Hp.Facts, Hp.CellsAt, Nat.reduceAdd, List.cons_append, List.nil_append] at F)
  have tok_bh : True := trivial
  go_wp2_with (first
      | ((have tok := tok_bh); clear tok tok_bh; (first | (with_reducible refine Hp.wpl_box sh ?_ ?_) | (with_reducible refine Hp.wpl_alloc Try.z_health sh ?_ ?_) | (with_reducible refine Hp.wpl_alloc Try.z_part sh ?_ ?_)); exact rfl; clear sh; (try clear F); go_simp; intro bh w1 sh; have F := sh.facts; (try simp only [Hp.Facts, Hp.CellsAt, Nat.reduceAdd, List.cons_append, List.nil_append] at F))
      | ((with_reducible refine Hp.wpl_box sh ?_ ?_); exact rfl; clear sh; (try clear F); go_simp; intro b w1 sh; have F := sh.facts; (try simp only [Hp.Facts, Hp.CellsAt, Nat.reduceAdd, List.cons_append, List.nil_append] at F))
      | ((with_reducible refine Hp.wpl_alloc Try.z_health sh ?_ ?_); exact rfl; clear sh; (try clear F); go_simp; intro b w1 sh; have F := sh.facts; (try simp only [Hp.Facts, Hp.CellsAt, Nat.reduceAdd, List.cons_append, List.nil_append] at F))
      | ((with_reducible refine Hp.wpl_alloc Try.z_part sh ?_ ?_); exact rfl; clear sh; (try clear F); go_simp; intro b w1 sh; have F := sh.facts; (try simp only [Hp.Facts, Hp.CellsAt, Nat.reduceAdd, List.cons_append, List.nil_append] at F))
      | ((with_reducible refine Hp.atl_store ?_ ?_); exact rfl; (first | refine Hp.wp_store 0 sh rfl rfl rfl rfl (by kernel_rfl) (Nat.le_of_ble_eq_true rfl) rfl ?_ | refine Hp.wp_store 1 sh rfl rfl rfl rfl (by kernel_rfl) (Nat.le_of_ble_eq_true rfl) rfl ?_ | refine Hp.wp_store 2 sh rfl rfl rfl rfl (by kernel_rfl) (Nat.le_of_ble_eq_true rfl) rfl ?_ | refine Hp.wp_store 3 sh rfl rfl rfl rfl (by kernel_rfl) (Nat.le_of_ble_eq_true rfl) rfl ?_ | refine Hp.wp_store 4 sh rfl rfl rfl rfl (by kernel_rfl) (Nat.le_of_ble_eq_true rfl) rfl ?_ | refine Hp.wp_store 5 sh rfl rfl rfl rfl (by kernel_rfl) (Nat.le_of_ble_eq_true rfl) rfl ?_ | refine Hp.wp_store 6 sh rfl rfl rfl rfl (by kernel_rfl) (Nat.le_of_ble_eq_true rfl) rfl ?_); clear sh; (try clear F); go_simp; intro w1 sh; have F := sh.facts; (try simp only [Hp.Facts, Hp.CellsAt, Nat.reduceAdd, List.cons_append, List.nil_append] at F))
      | fail)
  go_fit (HI.out _)
  rintro e w1 ⟨rfl, hb⟩
  replace sh := sh.call hb; clear hb; (try clear F); have F := sh.facts; (try simp only [Hp.Facts, Hp.CellsAt, Nat.reduceAdd, List.cons_append, List.nil_append] at F)
  go_wp2_with (first
      | ((with_reducible refine Hp.wpl_box sh ?_ ?_); exact rfl; clear sh; (try clear F); go_simp; intro b w1 sh; have F := sh.facts; (try simp only [Hp.Facts, Hp.CellsAt, Nat.reduceAdd, List.cons_append, List.nil_append] at F))
      | ((with_reducible refine Hp.wpl_alloc Try.z_health sh ?_ ?_); exact rfl; clear sh; (try clear F); go_simp; intro b w1 sh; have F := sh.facts; (try simp only [Hp.Facts, Hp.CellsAt, Nat.reduceAdd, List.cons_append, List.nil_append] at F))
      | ((with_reducible refine Hp.wpl_alloc Try.z_part sh ?_ ?_); exact rfl; clear sh; (try clear F); go_simp; intro b w1 sh; have F := sh.facts; (try simp only [Hp.Facts, Hp.CellsAt, Nat.reduceAdd, List.cons_append, List.nil_append] at F))
      | ((with_reducible refine Hp.atl_store ?_ ?_); exact rfl; (first | refine Hp.wp_store 0 sh rfl rfl rfl rfl (by kernel_rfl) (Nat.le_of_ble_eq_true rfl) rfl ?_ | refine Hp.wp_store 1 sh rfl rfl rfl rfl (by kernel_rfl) (Nat.le_of_ble_eq_true rfl) rfl ?_ | refine Hp.wp_store 2 sh rfl rfl rfl rfl (by kernel_rfl) (Nat.le_of_ble_eq_true rfl) rfl ?_ | refine Hp.wp_store 3 sh rfl rfl rfl rfl (by kernel_rfl) (Nat.le_of_ble_eq_true rfl) rfl ?_ | refine Hp.wp_store 4 sh rfl rfl rfl rfl (by kernel_rfl) (Nat.le_of_ble_eq_true rfl) rfl ?_ | refine Hp.wp_store 5 sh rfl rfl rfl rfl (by kernel_rfl) (Nat.le_of_ble_eq_true rfl) rfl ?_ | refine Hp.wp_store 6 sh rfl rfl rfl rfl (by kernel_rfl) (Nat.le_of_ble_eq_true rfl) rfl ?_); clear sh; (try clear F); go_simp; intro w1 sh; have F := sh.facts; (try simp only [Hp.Facts, Hp.CellsAt, Nat.reduceAdd, List.cons_append, List.nil_append] at F))
      | fail)
  go_fit (HJ.out _)
  rintro e w1 ⟨rfl, hb⟩
  replace sh := sh.call hb; clear hb; (try clear F); have F := sh.facts; (try simp only [Hp.Facts, Hp.CellsAt, Nat.reduceAdd, List.cons_append, List.nil_append] at F)
  go_wp2_with (first
      | ((with_reducible refine Hp.wpl_box sh ?_ ?_); exact rfl; clear sh; (try clear F); go_simp; intro b w1 sh; have F := sh.facts; (try simp only [Hp.Facts, Hp.CellsAt, Nat.reduceAdd, List.cons_append, List.nil_append] at F))
      | ((with_reducible refine Hp.wpl_alloc Try.z_health sh ?_ ?_); exact rfl; clear sh; (try clear F); go_simp; intro b w1 sh; have F := sh.facts; (try simp only [Hp.Facts, Hp.CellsAt, Nat.reduceAdd, List.cons_append, List.nil_append] at F))
      | ((with_reducible refine Hp.wpl_alloc Try.z_part sh ?_ ?_); exact rfl; clear sh; (try clear F); go_simp; intro b w1 sh; have F := sh.facts; (try simp only [Hp.Facts, Hp.CellsAt, Nat.reduceAdd, List.cons_append, List.nil_append] at F))
      | ((with_reducible refine Hp.atl_store ?_ ?_); exact rfl; (first | refine Hp.wp_store 0 sh rfl rfl rfl rfl (by kernel_rfl) (Nat.le_of_ble_eq_true rfl) rfl ?_ | refine Hp.wp_store 1 sh rfl rfl rfl rfl (by kernel_rfl) (Nat.le_of_ble_eq_true rfl) rfl ?_ | refine Hp.wp_store 2 sh rfl rfl rfl rfl (by kernel_rfl) (Nat.le_of_ble_eq_true rfl) rfl ?_ | refine Hp.wp_store 3 sh rfl rfl rfl rfl (by kernel_rfl) (Nat.le_of_ble_eq_true rfl) rfl ?_ | refine Hp.wp_store 4 sh rfl rfl rfl rfl (by kernel_rfl) (Nat.le_of_ble_eq_true rfl) rfl ?_ | refine Hp.wp_store 5 sh rfl rfl rfl rfl (by kernel_rfl) (Nat.le_of_ble_eq_true rfl) rfl ?_ | refine Hp.wp_store 6 sh rfl rfl rfl rfl (by kernel_rfl) (Nat.le_of_ble_eq_true rfl) rfl ?_); clear sh; (try clear F); go_simp; intro w1 sh; have F := sh.facts; (try simp only [Hp.Facts, Hp.CellsAt, Nat.reduceAdd, List.cons_append, List.nil_append] at F))
      | fail)
  go_loopw [8, 9] (fun g i wr => ∃ (k g' : Nat), g = .int .i64 g' ∧ i = .int .i64 k ∧ k ≤ 1 ∧ g' = 0 ∧ Hp.Sh w wr [(bh, #[.int .i64 (1), .int .i64 (0), .bool true], 26), (bp, #[.int .i64 p0, .int .i64 p1, .int .i64 p2, .slice cs cn cc, .int .i64 3, .int .i64 ag], 24)] (fun W => Hp.RdV W s (nums ([3])))) (fun _ i _ => 1 - (intOf i).toNat)
  case atStart => exact ⟨0, 0, rfl, rfl, by omega, by omega, by first | exact sh | exact sh.imp fun W h => h.1⟩
  case round =>
    clear sh F
    obtain ⟨k, g, rfl, rfl, hk, hg, sh⟩ := hrel
    have F := sh.facts; (try simp only [Hp.Facts, Hp.CellsAt, Nat.reduceAdd, List.cons_append, List.nil_append] at F)
    by_cases hlt : k < 1
    · have hlI : (k : Int) < ((1 : Nat) : Int) := by omega
      obtain ⟨p, rfl, -⟩ := sh.data (by simp [nums]; try omega)
      have hk0 : k = 0 := by omega
      have hne : ((k : Int) == 0) = true := by simp [hk0]
      have hc1 := sh.data.cell k (v := .int .i64 3) (by simp [nums, hk0])
      clear hk0
      go_wp2_with (first
          | ((with_reducible refine Hp.wpl_box sh ?_ ?_); exact rfl; clear sh; (try clear F); go_simp; intro b w1 sh; have F := sh.facts; (try simp only [Hp.Facts, Hp.CellsAt, Nat.reduceAdd, List.cons_append, List.nil_append] at F))
          | ((with_reducible refine Hp.wpl_alloc Try.z_health sh ?_ ?_); exact rfl; clear sh; (try clear F); go_simp; intro b w1 sh; have F := sh.facts; (try simp only [Hp.Facts, Hp.CellsAt, Nat.reduceAdd, List.cons_append, List.nil_append] at F))
          | ((with_reducible refine Hp.wpl_alloc Try.z_part sh ?_ ?_); exact rfl; clear sh; (try clear F); go_simp; intro b w1 sh; have F := sh.facts; (try simp only [Hp.Facts, Hp.CellsAt, Nat.reduceAdd, List.cons_append, List.nil_append] at F))
          | ((with_reducible refine Hp.atl_store ?_ ?_); exact rfl; (first | refine Hp.wp_store 0 sh rfl rfl rfl rfl (by kernel_rfl) (Nat.le_of_ble_eq_true rfl) rfl ?_ | refine Hp.wp_store 1 sh rfl rfl rfl rfl (by kernel_rfl) (Nat.le_of_ble_eq_true rfl) rfl ?_ | refine Hp.wp_store 2 sh rfl rfl rfl rfl (by kernel_rfl) (Nat.le_of_ble_eq_true rfl) rfl ?_ | refine Hp.wp_store 3 sh rfl rfl rfl rfl (by kernel_rfl) (Nat.le_of_ble_eq_true rfl) rfl ?_ | refine Hp.wp_store 4 sh rfl rfl rfl rfl (by kernel_rfl) (Nat.le_of_ble_eq_true rfl) rfl ?_ | refine Hp.wp_store 5 sh rfl rfl rfl rfl (by kernel_rfl) (Nat.le_of_ble_eq_true rfl) rfl ?_ | refine Hp.wp_store 6 sh rfl rfl rfl rfl (by kernel_rfl) (Nat.le_of_ble_eq_true rfl) rfl ?_); clear sh; (try clear F); go_simp; intro w1 sh; have F := sh.facts; (try simp only [Hp.Facts, Hp.CellsAt, Nat.reduceAdd, List.cons_append, List.nil_append] at F))
          | fail)
      go_quiet (fail)
      go_wp2
      go_roundw
      case rel => exact ⟨k + 1, g, by go_num, by go_num, by omega, by omega, sh.drewN _⟩
      case measure => simp [intOf] <;> omega
    · obtain rfl : k = 1 := by omega
      subst hg
      go_wp2_with (first
          | ((with_reducible refine Hp.wpl_box sh ?_ ?_); exact rfl; clear sh; (try clear F); go_simp; intro b w1 sh; have F := sh.facts; (try simp only [Hp.Facts, Hp.CellsAt, Nat.reduceAdd, List.cons_append, List.nil_append] at F))
          | ((with_reducible refine Hp.wpl_alloc Try.z_health sh ?_ ?_); exact rfl; clear sh; (try clear F); go_simp; intro b w1 sh; have F := sh.facts; (try simp only [Hp.Facts, Hp.CellsAt, Nat.reduceAdd, List.cons_append, List.nil_append] at F))
          | ((with_reducible refine Hp.wpl_alloc Try.z_part sh ?_ ?_); exact rfl; clear sh; (try clear F); go_simp; intro b w1 sh; have F := sh.facts; (try simp only [Hp.Facts, Hp.CellsAt, Nat.reduceAdd, List.cons_append, List.nil_append] at F))
          | ((with_reducible refine Hp.atl_store ?_ ?_); exact rfl; (first | refine Hp.wp_store 0 sh rfl rfl rfl rfl (by kernel_rfl) (Nat.le_of_ble_eq_true rfl) rfl ?_ | refine Hp.wp_store 1 sh rfl rfl rfl rfl (by kernel_rfl) (Nat.le_of_ble_eq_true rfl) rfl ?_ | refine Hp.wp_store 2 sh rfl rfl rfl rfl (by kernel_rfl) (Nat.le_of_ble_eq_true rfl) rfl ?_ | refine Hp.wp_store 3 sh rfl rfl rfl rfl (by kernel_rfl) (Nat.le_of_ble_eq_true rfl) rfl ?_ | refine Hp.wp_store 4 sh rfl rfl rfl rfl (by kernel_rfl) (Nat.le_of_ble_eq_true rfl) rfl ?_ | refine Hp.wp_store 5 sh rfl rfl rfl rfl (by kernel_rfl) (Nat.le_of_ble_eq_true rfl) rfl ?_ | refine Hp.wp_store 6 sh rfl rfl rfl rfl (by kernel_rfl) (Nat.le_of_ble_eq_true rfl) rfl ?_); clear sh; (try clear F); go_simp; intro w1 sh; have F := sh.facts; (try simp only [Hp.Facts, Hp.CellsAt, Nat.reduceAdd, List.cons_append, List.nil_append] at F))
          | fail)
      go_fit (HH.out _)
      rintro e w1 ⟨rfl, hb⟩
      replace sh := sh.call hb; clear hb; (try clear F); have F := sh.facts; (try simp only [Hp.Facts, Hp.CellsAt, Nat.reduceAdd, List.cons_append, List.nil_append] at F)
      go_wp2_with (first
          | ((with_reducible refine Hp.wpl_box sh ?_ ?_); exact rfl; clear sh; (try clear F); go_simp; intro b w1 sh; have F := sh.facts; (try simp only [Hp.Facts, Hp.CellsAt, Nat.reduceAdd, List.cons_append, List.nil_append] at F))
          | ((with_reducible refine Hp.wpl_alloc Try.z_health sh ?_ ?_); exact rfl; clear sh; (try clear F); go_simp; intro b w1 sh; have F := sh.facts; (try simp only [Hp.Facts, Hp.CellsAt, Nat.reduceAdd, List.cons_append, List.nil_append] at F))
          | ((with_reducible refine Hp.wpl_alloc Try.z_part sh ?_ ?_); exact rfl; clear sh; (try clear F); go_simp; intro b w1 sh; have F := sh.facts; (try simp only [Hp.Facts, Hp.CellsAt, Nat.reduceAdd, List.cons_append, List.nil_append] at F))
          | ((with_reducible refine Hp.atl_store ?_ ?_); exact rfl; (first | refine Hp.wp_store 0 sh rfl rfl rfl rfl (by kernel_rfl) (Nat.le_of_ble_eq_true rfl) rfl ?_ | refine Hp.wp_store 1 sh rfl rfl rfl rfl (by kernel_rfl) (Nat.le_of_ble_eq_true rfl) rfl ?_ | refine Hp.wp_store 2 sh rfl rfl rfl rfl (by kernel_rfl) (Nat.le_of_ble_eq_true rfl) rfl ?_ | refine Hp.wp_store 3 sh rfl rfl rfl rfl (by kernel_rfl) (Nat.le_of_ble_eq_true rfl) rfl ?_ | refine Hp.wp_store 4 sh rfl rfl rfl rfl (by kernel_rfl) (Nat.le_of_ble_eq_true rfl) rfl ?_ | refine Hp.wp_store 5 sh rfl rfl rfl rfl (by kernel_rfl) (Nat.le_of_ble_eq_true rfl) rfl ?_ | refine Hp.wp_store 6 sh rfl rfl rfl rfl (by kernel_rfl) (Nat.le_of_ble_eq_true rfl) rfl ?_); clear sh; (try clear F); go_simp; intro w1 sh; have F := sh.facts; (try simp only [Hp.Facts, Hp.CellsAt, Nat.reduceAdd, List.cons_append, List.nil_append] at F))
          | fail)
      go_ret
      exact ⟨rfl, sh.below⟩

set_option maxHeartbeats 4000000 in
set_option maxRecDepth 100000 in
theorem ends3z (p0 p1 p2 : Int) (cs : Option Addr) (cn cc : Nat) (ag : Int) (h0 : 0 ≤ ag) (h1 : ag ≤ 100) (w : World) :
    Calls Try.prog 5 #[.agg #[.int .i64 p0, .int .i64 p1, .int .i64 p2, .slice cs cn cc, .int .i64 3, .int .i64 ag], .int .i64 0] w fun e w' => e = .returned (.bool true) ∧ Below w.heap.size w w' := by
  have sh : Hp.Sh w w [] (fun _ => True) := Hp.Sh.start (fun _ _ => trivial)
  have HH := Lib.hid (fun W => hhealthy W)
  have HA := Lib.hid (fun w0 W H D (sh : Hp.Sh w0 W H D) => (hall p0 p1 p2 cs cn cc 3 ag 0 W (by omega) (by omega) (by omega)).mono fun e w' h => HeaP.AllP.sht sh h (f := 0) (a := 0) (d := false) (l := ([] : List Int)) (n := 0) rfl (by simp))
  have HI := Lib.hid (fun W => his p0 p1 p2 cs cn cc 3 ag 0 0 false W (by omega) (by omega) (by omega) (by omega))
  rw [HeaP.ok_mk (by omega)] at HI
  have HJ := Lib.hid (fun W => his p0 p1 p2 cs cn cc 3 ag (0) (0) false W (by omega) (by omega) (by omega) (by omega))
  rw [HeaP.ok_mk (by omega)] at HJ
  skip
  go_enter Try.func5, Try.ntmps5
  have tok_bp : True := trivial
  go_wp2_with (first
      | ((have tok := tok_bp); clear tok tok_bp; (first | (with_reducible refine Hp.wpl_box sh ?_ ?_) | (with_reducible refine Hp.wpl_alloc Try.z_health sh ?_ ?_) | (with_reducible refine Hp.wpl_alloc Try.z_part sh ?_ ?_)); exact rfl; clear sh; (try clear F); go_simp; intro bp w1 sh; have F := sh.facts; (try simp only [Hp.Facts, Hp.CellsAt, Nat.reduceAdd, List.cons_append, List.nil_append] at F))
      | ((with_reducible refine Hp.wpl_box sh ?_ ?_); exact rfl; clear sh; (try clear F); go_simp; intro b w1 sh; have F := sh.facts; (try simp only [Hp.Facts, Hp.CellsAt, Nat.reduceAdd, List.cons_append, List.nil_append] at F))
      | ((with_reducible refine Hp.wpl_alloc Try.z_health sh ?_ ?_); exact rfl; clear sh; (try clear F); go_simp; intro b w1 sh; have F := sh.facts; (try simp only [Hp.Facts, Hp.CellsAt, Nat.reduceAdd, List.cons_append, List.nil_append] at F))
      | ((with_reducible refine Hp.wpl_alloc Try.z_part sh ?_ ?_); exact rfl; clear sh; (try clear F); go_simp; intro b w1 sh; have F := sh.facts; (try simp only [Hp.Facts, Hp.CellsAt, Nat.reduceAdd, List.cons_append, List.nil_append] at F))
      | ((with_reducible refine Hp.atl_store ?_ ?_); exact rfl; (first | refine Hp.wp_store 0 sh rfl rfl rfl rfl (by kernel_rfl) (Nat.le_of_ble_eq_true rfl) rfl ?_ | refine Hp.wp_store 1 sh rfl rfl rfl rfl (by kernel_rfl) (Nat.le_of_ble_eq_true rfl) rfl ?_ | refine Hp.wp_store 2 sh rfl rfl rfl rfl (by kernel_rfl) (Nat.le_of_ble_eq_true rfl) rfl ?_ | refine Hp.wp_store 3 sh rfl rfl rfl rfl (by kernel_rfl) (Nat.le_of_ble_eq_true rfl) rfl ?_ | refine Hp.wp_store 4 sh rfl rfl rfl rfl (by kernel_rfl) (Nat.le_of_ble_eq_true rfl) rfl ?_ | refine Hp.wp_store 5 sh rfl rfl rfl rfl (by kernel_rfl) (Nat.le_of_ble_eq_true rfl) rfl ?_ | refine Hp.wp_store 6 sh rfl rfl rfl rfl (by kernel_rfl) (Nat.le_of_ble_eq_true rfl) rfl ?_); clear sh; (try clear F); go_simp; intro w1 sh; have F := sh.facts; (try simp only [Hp.Facts, Hp.CellsAt, Nat.reduceAdd, List.cons_append, List.nil_append] at F))
      | fail)
  go_fit (HA.out w _ _ _ sh)
  clear sh; (try clear F)
  rintro e w1 ⟨s, c, rfl, sh⟩
  have F := sh.facts; (try simp only [Hp.Facts, Hp.CellsAt, Nat.reduceAdd, List.cons_append, List.nil_append] at F)
  have tok_bh : True := trivial
  go_wp2_with (first
      | ((have tok := tok_bh); clear tok tok_bh; (first | (with_reducible refine Hp.wpl_box sh ?_ ?_) | (with_reducible refine Hp.wpl_alloc Try.z_health sh ?_ ?_) | (with_reducible refine Hp.wpl_alloc Try.z_part sh ?_ ?_)); exact rfl; clear sh; (try clear F); go_simp; intro bh w1 sh; have F := sh.facts; (try simp only [Hp.Facts, Hp.CellsAt, Nat.reduceAdd, List.cons_append, List.nil_append] at F))
      | ((with_reducible refine Hp.wpl_box sh ?_ ?_); exact rfl; clear sh; (try clear F); go_simp; intro b w1 sh; have F := sh.facts; (try simp only [Hp.Facts, Hp.CellsAt, Nat.reduceAdd, List.cons_append, List.nil_append] at F))
      | ((with_reducible refine Hp.wpl_alloc Try.z_health sh ?_ ?_); exact rfl; clear sh; (try clear F); go_simp; intro b w1 sh; have F := sh.facts; (try simp only [Hp.Facts, Hp.CellsAt, Nat.reduceAdd, List.cons_append, List.nil_append] at F))
      | ((with_reducible refine Hp.wpl_alloc Try.z_part sh ?_ ?_); exact rfl; clear sh; (try clear F); go_simp; intro b w1 sh; have F := sh.facts; (try simp only [Hp.Facts, Hp.CellsAt, Nat.reduceAdd, List.cons_append, List.nil_append] at F))
      | ((with_reducible refine Hp.atl_store ?_ ?_); exact rfl; (first | refine Hp.wp_store 0 sh rfl rfl rfl rfl (by kernel_rfl) (Nat.le_of_ble_eq_true rfl) rfl ?_ | refine Hp.wp_store 1 sh rfl rfl rfl rfl (by kernel_rfl) (Nat.le_of_ble_eq_true rfl) rfl ?_ | refine Hp.wp_store 2 sh rfl rfl rfl rfl (by kernel_rfl) (Nat.le_of_ble_eq_true rfl) rfl ?_ | refine Hp.wp_store 3 sh rfl rfl rfl rfl (by kernel_rfl) (Nat.le_of_ble_eq_true rfl) rfl ?_ | refine Hp.wp_store 4 sh rfl rfl rfl rfl (by kernel_rfl) (Nat.le_of_ble_eq_true rfl) rfl ?_ | refine Hp.wp_store 5 sh rfl rfl rfl rfl (by kernel_rfl) (Nat.le_of_ble_eq_true rfl) rfl ?_ | refine Hp.wp_store 6 sh rfl rfl rfl rfl (by kernel_rfl) (Nat.le_of_ble_eq_true rfl) rfl ?_); clear sh; (try clear F); go_simp; intro w1 sh; have F := sh.facts; (try simp only [Hp.Facts, Hp.CellsAt, Nat.reduceAdd, List.cons_append, List.nil_append] at F))
      | fail)
  go_fit (HI.out _)
  rintro e w1 ⟨rfl, hb⟩
  replace sh := sh.call hb; clear hb; (try clear F); have F := sh.facts; (try simp only [Hp.Facts, Hp.CellsAt, Nat.reduceAdd, List.cons_append, List.nil_append] at F)
  go_wp2_with (first
      | ((with_reducible refine Hp.wpl_box sh ?_ ?_); exact rfl; clear sh; (try clear F); go_simp; intro b w1 sh; have F := sh.facts; (try simp only [Hp.Facts, Hp.CellsAt, Nat.reduceAdd, List.cons_append, List.nil_append] at F))
      | ((with_reducible refine Hp.wpl_alloc Try.z_health sh ?_ ?_); exact rfl; clear sh; (try clear F); go_simp; intro b w1 sh; have F := sh.facts; (try simp only [Hp.Facts, Hp.CellsAt, Nat.reduceAdd, List.cons_append, List.nil_append] at F))
      | ((with_reducible refine Hp.wpl_alloc Try.z_part sh ?_ ?_); exact rfl; clear sh; (try clear F); go_simp; intro b w1 sh; have F := sh.facts; (try simp only [Hp.Facts, Hp.CellsAt, Nat.reduceAdd, List.cons_append, List.nil_append] at F))
      | ((with_reducible refine Hp.atl_store ?_ ?_); exact rfl; (first | refine Hp.wp_store 0 sh rfl rfl rfl rfl (by kernel_rfl) (Nat.le_of_ble_eq_true rfl) rfl ?_ | refine Hp.wp_store 1 sh rfl rfl rfl rfl (by kernel_rfl) (Nat.le_of_ble_eq_true rfl) rfl ?_ | refine Hp.wp_store 2 sh rfl rfl rfl rfl (by kernel_rfl) (Nat.le_of_ble_eq_true rfl) rfl ?_ | refine Hp.wp_store 3 sh rfl rfl rfl rfl (by kernel_rfl) (Nat.le_of_ble_eq_true rfl) rfl ?_ | refine Hp.wp_store 4 sh rfl rfl rfl rfl (by kernel_rfl) (Nat.le_of_ble_eq_true rfl) rfl ?_ | refine Hp.wp_store 5 sh rfl rfl rfl rfl (by kernel_rfl) (Nat.le_of_ble_eq_true rfl) rfl ?_ | refine Hp.wp_store 6 sh rfl rfl rfl rfl (by kernel_rfl) (Nat.le_of_ble_eq_true rfl) rfl ?_); clear sh; (try clear F); go_simp; intro w1 sh; have F := sh.facts; (try simp only [Hp.Facts, Hp.CellsAt, Nat.reduceAdd, List.cons_append, List.nil_append] at F))
      | fail)
  go_fit (HJ.out _)
  rintro e w1 ⟨rfl, hb⟩
  replace sh := sh.call hb; clear hb; (try clear F); have F := sh.facts; (try simp only [Hp.Facts, Hp.CellsAt, Nat.reduceAdd, List.cons_append, List.nil_append] at F)
  go_wp2_with (first
      | ((with_reducible refine Hp.wpl_box sh ?_ ?_); exact rfl; clear sh; (try clear F); go_simp; intro b w1 sh; have F := sh.facts; (try simp only [Hp.Facts, Hp.CellsAt, Nat.reduceAdd, List.cons_append, List.nil_append] at F))
      | ((with_reducible refine Hp.wpl_alloc Try.z_health sh ?_ ?_); exact rfl; clear sh; (try clear F); go_simp; intro b w1 sh; have F := sh.facts; (try simp only [Hp.Facts, Hp.CellsAt, Nat.reduceAdd, List.cons_append, List.nil_append] at F))
      | ((with_reducible refine Hp.wpl_alloc Try.z_part sh ?_ ?_); exact rfl; clear sh; (try clear F); go_simp; intro b w1 sh; have F := sh.facts; (try simp only [Hp.Facts, Hp.CellsAt, Nat.reduceAdd, List.cons_append, List.nil_append] at F))
      | ((with_reducible refine Hp.atl_store ?_ ?_); exact rfl; (first | refine Hp.wp_store 0 sh rfl rfl rfl rfl (by kernel_rfl) (Nat.le_of_ble_eq_true rfl) rfl ?_ | refine Hp.wp_store 1 sh rfl rfl rfl rfl (by kernel_rfl) (Nat.le_of_ble_eq_true rfl) rfl ?_ | refine Hp.wp_store 2 sh rfl rfl rfl rfl (by kernel_rfl) (Nat.le_of_ble_eq_true rfl) rfl ?_ | refine Hp.wp_store 3 sh rfl rfl rfl rfl (by kernel_rfl) (Nat.le_of_ble_eq_true rfl) rfl ?_ | refine Hp.wp_store 4 sh rfl rfl rfl rfl (by kernel_rfl) (Nat.le_of_ble_eq_true rfl) rfl ?_ | refine Hp.wp_store 5 sh rfl rfl rfl rfl (by kernel_rfl) (Nat.le_of_ble_eq_true rfl) rfl ?_ | refine Hp.wp_store 6 sh rfl rfl rfl rfl (by kernel_rfl) (Nat.le_of_ble_eq_true rfl) rfl ?_); clear sh; (try clear F); go_simp; intro w1 sh; have F := sh.facts; (try simp only [Hp.Facts, Hp.CellsAt, Nat.reduceAdd, List.cons_append, List.nil_append] at F))
      | fail)
  go_loopw [8, 9] (fun g i wr => ∃ (k g' : Nat), g = .int .i64 g' ∧ i = .int .i64 k ∧ k ≤ 0 ∧ g' = 0 ∧ Hp.Sh w wr [(bh, #[.int .i64 (0), .int .i64 (0), .bool false], 26), (bp, #[.int .i64 p0, .int .i64 p1, .int .i64 p2, .slice cs cn cc, .int .i64 3, .int .i64 ag], 24)] (fun W => Hp.RdV W s (nums (([] : List Int))))) (fun _ i _ => 0 - (intOf i).toNat)
  case atStart => exact ⟨0, 0, rfl, rfl, by omega, by omega, by first | exact sh | exact sh.imp fun W h => h.1⟩
  case round =>
    clear sh F
    obtain ⟨k, g, rfl, rfl, hk, hg, sh⟩ := hrel
    have F := sh.facts; (try simp only [Hp.Facts, Hp.CellsAt, Nat.reduceAdd, List.cons_append, List.nil_append] at F)
    by_cases hlt : k < 0
    · have hlI : (k : Int) < ((0 : Nat) : Int) := by omega
      omega
    · obtain rfl : k = 0 := by omega
      subst hg
      go_wp2_with (first
          | ((with_reducible refine Hp.wpl_box sh ?_ ?_); exact rfl; clear sh; (try clear F); go_simp; intro b w1 sh; have F := sh.facts; (try simp only [Hp.Facts, Hp.CellsAt, Nat.reduceAdd, List.cons_append, List.nil_append] at F))
          | ((with_reducible refine Hp.wpl_alloc Try.z_health sh ?_ ?_); exact rfl; clear sh; (try clear F); go_simp; intro b w1 sh; have F := sh.facts; (try simp only [Hp.Facts, Hp.CellsAt, Nat.reduceAdd, List.cons_append, List.nil_append] at F))
          | ((with_reducible refine Hp.wpl_alloc Try.z_part sh ?_ ?_); exact rfl; clear sh; (try clear F); go_simp; intro b w1 sh; have F := sh.facts; (try simp only [Hp.Facts, Hp.CellsAt, Nat.reduceAdd, List.cons_append, List.nil_append] at F))
          | ((with_reducible refine Hp.atl_store ?_ ?_); exact rfl; (first | refine Hp.wp_store 0 sh rfl rfl rfl rfl (by kernel_rfl) (Nat.le_of_ble_eq_true rfl) rfl ?_ | refine Hp.wp_store 1 sh rfl rfl rfl rfl (by kernel_rfl) (Nat.le_of_ble_eq_true rfl) rfl ?_ | refine Hp.wp_store 2 sh rfl rfl rfl rfl (by kernel_rfl) (Nat.le_of_ble_eq_true rfl) rfl ?_ | refine Hp.wp_store 3 sh rfl rfl rfl rfl (by kernel_rfl) (Nat.le_of_ble_eq_true rfl) rfl ?_ | refine Hp.wp_store 4 sh rfl rfl rfl rfl (by kernel_rfl) (Nat.le_of_ble_eq_true rfl) rfl ?_ | refine Hp.wp_store 5 sh rfl rfl rfl rfl (by kernel_rfl) (Nat.le_of_ble_eq_true rfl) rfl ?_ | refine Hp.wp_store 6 sh rfl rfl rfl rfl (by kernel_rfl) (Nat.le_of_ble_eq_true rfl) rfl ?_); clear sh; (try clear F); go_simp; intro w1 sh; have F := sh.facts; (try simp only [Hp.Facts, Hp.CellsAt, Nat.reduceAdd, List.cons_append, List.nil_append] at F))
          | fail)
      go_fit (HH.out _)
      rintro e w1 ⟨rfl, hb⟩
      replace sh := sh.call hb; clear hb; (try clear F); have F := sh.facts; (try simp only [Hp.Facts, Hp.CellsAt, Nat.reduceAdd, List.cons_append, List.nil_append] at F)
      go_wp2_with (first
          | ((with_reducible refine Hp.wpl_box sh ?_ ?_); exact rfl; clear sh; (try clear F); go_simp; intro b w1 sh; have F := sh.facts; (try simp only [Hp.Facts, Hp.CellsAt, Nat.reduceAdd, List.cons_append, List.nil_append] at F))
          | ((with_reducible refine Hp.wpl_alloc Try.z_health sh ?_ ?_); exact rfl; clear sh; (try clear F); go_simp; intro b w1 sh; have F := sh.facts; (try simp only [Hp.Facts, Hp.CellsAt, Nat.reduceAdd, List.cons_append, List.nil_append] at F))
          | ((with_reducible refine Hp.wpl_alloc Try.z_part sh ?_ ?_); exact rfl; clear sh; (try clear F); go_simp; intro b w1 sh; have F := sh.facts; (try simp only [Hp.Facts, Hp.CellsAt, Nat.reduceAdd, List.cons_append, List.nil_append] at F))
          | ((with_reducible refine Hp.atl_store ?_ ?_); exact rfl; (first | refine Hp.wp_store 0 sh rfl rfl rfl rfl (by kernel_rfl) (Nat.le_of_ble_eq_true rfl) rfl ?_ | refine Hp.wp_store 1 sh rfl rfl rfl rfl (by kernel_rfl) (Nat.le_of_ble_eq_true rfl) rfl ?_ | refine Hp.wp_store 2 sh rfl rfl rfl rfl (by kernel_rfl) (Nat.le_of_ble_eq_true rfl) rfl ?_ | refine Hp.wp_store 3 sh rfl rfl rfl rfl (by kernel_rfl) (Nat.le_of_ble_eq_true rfl) rfl ?_ | refine Hp.wp_store 4 sh rfl rfl rfl rfl (by kernel_rfl) (Nat.le_of_ble_eq_true rfl) rfl ?_ | refine Hp.wp_store 5 sh rfl rfl rfl rfl (by kernel_rfl) (Nat.le_of_ble_eq_true rfl) rfl ?_ | refine Hp.wp_store 6 sh rfl rfl rfl rfl (by kernel_rfl) (Nat.le_of_ble_eq_true rfl) rfl ?_); clear sh; (try clear F); go_simp; intro w1 sh; have F := sh.facts; (try simp only [Hp.Facts, Hp.CellsAt, Nat.reduceAdd, List.cons_append, List.nil_append] at F))
          | fail)
      go_ret
      exact ⟨rfl, sh.below⟩

set_option maxHeartbeats 4000000 in
set_option maxRecDepth 100000 in
theorem ends_no (p0 p1 p2 : Int) (cs : Option Addr) (cn cc : Nat) (fa ag n : Int) (w : World) (hfa : -9223372036854775808 ≤ fa ∧ fa ≤ 9223372036854775807) (hag : -9223372036854775808 ≤ ag ∧ ag ≤ 9223372036854775807) (hn : -9223372036854775808 ≤ n ∧ n ≤ 9223372036854775807) (h : HeaP.ok fa ag 0 0 = false ∨ n < 0 ∨ 1000 < n) :
    Calls Try.prog 5 #[.agg #[.int .i64 p0, .int .i64 p1, .int .i64 p2, .slice cs cn cc, .int .i64 fa, .int .i64 ag], .int .i64 n] w fun e w' => e = .returned (.bool true) ∧ Below w.heap.size w w' := by
  have sh : Hp.Sh w w [] (fun _ => True) := Hp.Sh.start (fun _ _ => trivial)
  have HH := Lib.hid (fun W => hhealthy W)
  have HA := Lib.hid (fun w0 W H D (sh : Hp.Sh w0 W H D) => (hall p0 p1 p2 cs cn cc fa ag n W hfa hag hn).mono fun e w' h => HeaP.AllP.sh sh h)
  have HI := Lib.hid (fun W => his p0 p1 p2 cs cn cc fa ag 0 0 false W hfa hag (by omega) (by omega))
  generalize HeaP.all fa ag (min n 1000).toNat = x at HA
  obtain ⟨⟨f', a', d'⟩, l⟩ := x
  cases hok : HeaP.ok fa ag 0 0 with
  | false =>
    rw [hok] at HI
    clear h hok
    go_enter Try.func5, Try.ntmps5
    have tok_bp : True := trivial
    go_wp2_with (first
        | ((have tok := tok_bp); clear tok tok_bp; (first | (with_reducible refine Hp.wpl_box sh ?_ ?_) | (with_reducible refine Hp.wpl_alloc Try.z_health sh ?_ ?_) | (with_reducible refine Hp.wpl_alloc Try.z_part sh ?_ ?_)); exact rfl; clear sh; (try clear F); go_simp; intro bp w1 sh; have F := sh.facts; (try simp only [Hp.Facts, Hp.CellsAt, Nat.reduceAdd, List.cons_append, List.nil_append] at F))
        | ((with_reducible refine Hp.wpl_box sh ?_ ?_); exact rfl; clear sh; (try clear F); go_simp; intro b w1 sh; have F := sh.facts; (try simp only [Hp.Facts, Hp.CellsAt, Nat.reduceAdd, List.cons_append, List.nil_append] at F))
        | ((with_reducible refine Hp.wpl_alloc Try.z_health sh ?_ ?_); exact rfl; clear sh; (try clear F); go_simp; intro b w1 sh; have F := sh.facts; (try simp only [Hp.Facts, Hp.CellsAt, Nat.reduceAdd, List.cons_append, List.nil_append] at F))
        | ((with_reducible refine Hp.wpl_alloc Try.z_part sh ?_ ?_); exact rfl; clear sh; (try clear F); go_simp; intro b w1 sh; have F := sh.facts; (try simp only [Hp.Facts, Hp.CellsAt, Nat.reduceAdd, List.cons_append, List.nil_append] at F))
        | ((with_reducible refine Hp.atl_store ?_ ?_); exact rfl; (first | refine Hp.wp_store 0 sh rfl rfl rfl rfl (by kernel_rfl) (Nat.le_of_ble_eq_true rfl) rfl ?_ | refine Hp.wp_store 1 sh rfl rfl rfl rfl (by kernel_rfl) (Nat.le_of_ble_eq_true rfl) rfl ?_ | refine Hp.wp_store 2 sh rfl rfl rfl rfl (by kernel_rfl) (Nat.le_of_ble_eq_true rfl) rfl ?_ | refine Hp.wp_store 3 sh rfl rfl rfl rfl (by kernel_rfl) (Nat.le_of_ble_eq_true rfl) rfl ?_ | refine Hp.wp_store 4 sh rfl rfl rfl rfl (by kernel_rfl) (Nat.le_of_ble_eq_true rfl) rfl ?_ | refine Hp.wp_store 5 sh rfl rfl rfl rfl (by kernel_rfl) (Nat.le_of_ble_eq_true rfl) rfl ?_ | refine Hp.wp_store 6 sh rfl rfl rfl rfl (by kernel_rfl) (Nat.le_of_ble_eq_true rfl) rfl ?_); clear sh; (try clear F); go_simp; intro w1 sh; have F := sh.facts; (try simp only [Hp.Facts, Hp.CellsAt, Nat.reduceAdd, List.cons_append, List.nil_append] at F))
        | fail)
    go_fit (HA.out w _ _ _ sh)
    clear sh; (try clear F)
    rintro e w1 ⟨s, c, rfl, sh⟩
    have F := sh.facts; (try simp only [Hp.Facts, Hp.CellsAt, Nat.reduceAdd, List.cons_append, List.nil_append] at F)
    have tok_bh : True := trivial
    go_wp2_with (first
        | ((have tok := tok_bh); clear tok tok_bh; (first | (with_reducible refine Hp.wpl_box sh ?_ ?_) | (with_reducible refine Hp.wpl_alloc Try.z_health sh ?_ ?_) | (with_reducible refine Hp.wpl_alloc Try.z_part sh ?_ ?_)); exact rfl; clear sh; (try clear F); go_simp; intro bh w1 sh; have F := sh.facts; (try simp only [Hp.Facts, Hp.CellsAt, Nat.reduceAdd, List.cons_append, List.nil_append] at F))
        | ((with_reducible refine Hp.wpl_box sh ?_ ?_); exact rfl; clear sh; (try clear F); go_simp; intro b w1 sh; have F := sh.facts; (try simp only [Hp.Facts, Hp.CellsAt, Nat.reduceAdd, List.cons_append, List.nil_append] at F))
        | ((with_reducible refine Hp.wpl_alloc Try.z_health sh ?_ ?_); exact rfl; clear sh; (try clear F); go_simp; intro b w1 sh; have F := sh.facts; (try simp only [Hp.Facts, Hp.CellsAt, Nat.reduceAdd, List.cons_append, List.nil_append] at F))
        | ((with_reducible refine Hp.wpl_alloc Try.z_part sh ?_ ?_); exact rfl; clear sh; (try clear F); go_simp; intro b w1 sh; have F := sh.facts; (try simp only [Hp.Facts, Hp.CellsAt, Nat.reduceAdd, List.cons_append, List.nil_append] at F))
        | ((with_reducible refine Hp.atl_store ?_ ?_); exact rfl; (first | refine Hp.wp_store 0 sh rfl rfl rfl rfl (by kernel_rfl) (Nat.le_of_ble_eq_true rfl) rfl ?_ | refine Hp.wp_store 1 sh rfl rfl rfl rfl (by kernel_rfl) (Nat.le_of_ble_eq_true rfl) rfl ?_ | refine Hp.wp_store 2 sh rfl rfl rfl rfl (by kernel_rfl) (Nat.le_of_ble_eq_true rfl) rfl ?_ | refine Hp.wp_store 3 sh rfl rfl rfl rfl (by kernel_rfl) (Nat.le_of_ble_eq_true rfl) rfl ?_ | refine Hp.wp_store 4 sh rfl rfl rfl rfl (by kernel_rfl) (Nat.le_of_ble_eq_true rfl) rfl ?_ | refine Hp.wp_store 5 sh rfl rfl rfl rfl (by kernel_rfl) (Nat.le_of_ble_eq_true rfl) rfl ?_ | refine Hp.wp_store 6 sh rfl rfl rfl rfl (by kernel_rfl) (Nat.le_of_ble_eq_true rfl) rfl ?_); clear sh; (try clear F); go_simp; intro w1 sh; have F := sh.facts; (try simp only [Hp.Facts, Hp.CellsAt, Nat.reduceAdd, List.cons_append, List.nil_append] at F))
        | fail)
    go_fit (HI.out _)
    rintro e w1 ⟨rfl, hb⟩
    replace sh := sh.call hb; clear hb; (try clear F); have F := sh.facts; (try simp only [Hp.Facts, Hp.CellsAt, Nat.reduceAdd, List.cons_append, List.nil_append] at F)
    go_wp2_with (first
        | ((with_reducible refine Hp.wpl_box sh ?_ ?_); exact rfl; clear sh; (try clear F); go_simp; intro b w1 sh; have F := sh.facts; (try simp only [Hp.Facts, Hp.CellsAt, Nat.reduceAdd, List.cons_append, List.nil_append] at F))
        | ((with_reducible refine Hp.wpl_alloc Try.z_health sh ?_ ?_); exact rfl; clear sh; (try clear F); go_simp; intro b w1 sh; have F := sh.facts; (try simp only [Hp.Facts, Hp.CellsAt, Nat.reduceAdd, List.cons_append, List.nil_append] at F))
        | ((with_reducible refine Hp.wpl_alloc Try.z_part sh ?_ ?_); exact rfl; clear sh; (try clear F); go_simp; intro b w1 sh; have F := sh.facts; (try simp only [Hp.Facts, Hp.CellsAt, Nat.reduceAdd, List.cons_append, List.nil_append] at F))
        | ((with_reducible refine Hp.atl_store ?_ ?_); exact rfl; (first | refine Hp.wp_store 0 sh rfl rfl rfl rfl (by kernel_rfl) (Nat.le_of_ble_eq_true rfl) rfl ?_ | refine Hp.wp_store 1 sh rfl rfl rfl rfl (by kernel_rfl) (Nat.le_of_ble_eq_true rfl) rfl ?_ | refine Hp.wp_store 2 sh rfl rfl rfl rfl (by kernel_rfl) (Nat.le_of_ble_eq_true rfl) rfl ?_ | refine Hp.wp_store 3 sh rfl rfl rfl rfl (by kernel_rfl) (Nat.le_of_ble_eq_true rfl) rfl ?_ | refine Hp.wp_store 4 sh rfl rfl rfl rfl (by kernel_rfl) (Nat.le_of_ble_eq_true rfl) rfl ?_ | refine Hp.wp_store 5 sh rfl rfl rfl rfl (by kernel_rfl) (Nat.le_of_ble_eq_true rfl) rfl ?_ | refine Hp.wp_store 6 sh rfl rfl rfl rfl (by kernel_rfl) (Nat.le_of_ble_eq_true rfl) rfl ?_); clear sh; (try clear F); go_simp; intro w1 sh; have F := sh.facts; (try simp only [Hp.Facts, Hp.CellsAt, Nat.reduceAdd, List.cons_append, List.nil_append] at F))
        | fail)
    go_fit (HH.out _)
    rintro e w1 ⟨rfl, hb⟩
    replace sh := sh.call hb; clear hb; (try clear F); have F := sh.facts; (try simp only [Hp.Facts, Hp.CellsAt, Nat.reduceAdd, List.cons_append, List.nil_append] at F)
    go_wp2_with (first
        | ((with_reducible refine Hp.wpl_box sh ?_ ?_); exact rfl; clear sh; (try clear F); go_simp; intro b w1 sh; have F := sh.facts; (try simp only [Hp.Facts, Hp.CellsAt, Nat.reduceAdd, List.cons_append, List.nil_append] at F))
        | ((with_reducible refine Hp.wpl_alloc Try.z_health sh ?_ ?_); exact rfl; clear sh; (try clear F); go_simp; intro b w1 sh; have F := sh.facts; (try simp only [Hp.Facts, Hp.CellsAt, Nat.reduceAdd, List.cons_append, List.nil_append] at F))
        | ((with_reducible refine Hp.wpl_alloc Try.z_part sh ?_ ?_); exact rfl; clear sh; (try clear F); go_simp; intro b w1 sh; have F := sh.facts; (try simp only [Hp.Facts, Hp.CellsAt, Nat.reduceAdd, List.cons_append, List.nil_append] at F))
        | ((with_reducible refine Hp.atl_store ?_ ?_); exact rfl; (first | refine Hp.wp_store 0 sh rfl rfl rfl rfl (by kernel_rfl) (Nat.le_of_ble_eq_true rfl) rfl ?_ | refine Hp.wp_store 1 sh rfl rfl rfl rfl (by kernel_rfl) (Nat.le_of_ble_eq_true rfl) rfl ?_ | refine Hp.wp_store 2 sh rfl rfl rfl rfl (by kernel_rfl) (Nat.le_of_ble_eq_true rfl) rfl ?_ | refine Hp.wp_store 3 sh rfl rfl rfl rfl (by kernel_rfl) (Nat.le_of_ble_eq_true rfl) rfl ?_ | refine Hp.wp_store 4 sh rfl rfl rfl rfl (by kernel_rfl) (Nat.le_of_ble_eq_true rfl) rfl ?_ | refine Hp.wp_store 5 sh rfl rfl rfl rfl (by kernel_rfl) (Nat.le_of_ble_eq_true rfl) rfl ?_ | refine Hp.wp_store 6 sh rfl rfl rfl rfl (by kernel_rfl) (Nat.le_of_ble_eq_true rfl) rfl ?_); clear sh; (try clear F); go_simp; intro w1 sh; have F := sh.facts; (try simp only [Hp.Facts, Hp.CellsAt, Nat.reduceAdd, List.cons_append, List.nil_append] at F))
        | fail)
    go_ret
    exact ⟨rfl, sh.below⟩
  | true =>
    rw [hok] at HI h
    have h' : n < 0 ∨ 1000 < n := by simpa using h
    clear h hok
    rcases h' with h | h
    · go_enter Try.func5, Try.ntmps5
      have tok_bp : True := trivial
      go_wp2_with (first
          | ((have tok := tok_bp); clear tok tok_bp; (first | (with_reducible refine Hp.wpl_box sh ?_ ?_) | (with_reducible refine Hp.wpl_alloc Try.z_health sh ?_ ?_) | (with_reducible refine Hp.wpl_alloc Try.z_part sh ?_ ?_)); exact rfl; clear sh; (try clear F); go_simp; intro bp w1 sh; have F := sh.facts; (try simp only [Hp.Facts, Hp.CellsAt, Nat.reduceAdd, List.cons_append, List.nil_append] at F))
          | ((with_reducible refine Hp.wpl_box sh ?_ ?_); exact rfl; clear sh; (try clear F); go_simp; intro b w1 sh; have F := sh.facts; (try simp only [Hp.Facts, Hp.CellsAt, Nat.reduceAdd, List.cons_append, List.nil_append] at F))
          | ((with_reducible refine Hp.wpl_alloc Try.z_health sh ?_ ?_); exact rfl; clear sh; (try clear F); go_simp; intro b w1 sh; have F := sh.facts; (try simp only [Hp.Facts, Hp.CellsAt, Nat.reduceAdd, List.cons_append, List.nil_append] at F))
          | ((with_reducible refine Hp.wpl_alloc Try.z_part sh ?_ ?_); exact rfl; clear sh; (try clear F); go_simp; intro b w1 sh; have F := sh.facts; (try simp only [Hp.Facts, Hp.CellsAt, Nat.reduceAdd, List.cons_append, List.nil_append] at F))
          | ((with_reducible refine Hp.atl_store ?_ ?_); exact rfl; (first | refine Hp.wp_store 0 sh rfl rfl rfl rfl (by kernel_rfl) (Nat.le_of_ble_eq_true rfl) rfl ?_ | refine Hp.wp_store 1 sh rfl rfl rfl rfl (by kernel_rfl) (Nat.le_of_ble_eq_true rfl) rfl ?_ | refine Hp.wp_store 2 sh rfl rfl rfl rfl (by kernel_rfl) (Nat.le_of_ble_eq_true rfl) rfl ?_ | refine Hp.wp_store 3 sh rfl rfl rfl rfl (by kernel_rfl) (Nat.le_of_ble_eq_true rfl) rfl ?_ | refine Hp.wp_store 4 sh rfl rfl rfl rfl (by kernel_rfl) (Nat.le_of_ble_eq_true rfl) rfl ?_ | refine Hp.wp_store 5 sh rfl rfl rfl rfl (by kernel_rfl) (Nat.le_of_ble_eq_true rfl) rfl ?_ | refine Hp.wp_store 6 sh rfl rfl rfl rfl (by kernel_rfl) (Nat.le_of_ble_eq_true rfl) rfl ?_); clear sh; (try clear F); go_simp; intro w1 sh; have F := sh.facts; (try simp only [Hp.Facts, Hp.CellsAt, Nat.reduceAdd, List.cons_append, List.nil_append] at F))
          | fail)
      go_fit (HA.out w _ _ _ sh)
      clear sh; (try clear F)
      rintro e w1 ⟨s, c, rfl, sh⟩
      have F := sh.facts; (try simp only [Hp.Facts, Hp.CellsAt, Nat.reduceAdd, List.cons_append, List.nil_append] at F)
      have tok_bh : True := trivial
      go_wp2_with (first
          | ((have tok := tok_bh); clear tok tok_bh; (first | (with_reducible refine Hp.wpl_box sh ?_ ?_) | (with_reducible refine Hp.wpl_alloc Try.z_health sh ?_ ?_) | (with_reducible refine Hp.wpl_alloc Try.z_part sh ?_ ?_)); exact rfl; clear sh; (try clear F); go_simp; intro bh w1 sh; have F := sh.facts; (try simp only [Hp.Facts, Hp.CellsAt, Nat.reduceAdd, List.cons_append, List.nil_append] at F))
          | ((with_reducible refine Hp.wpl_box sh ?_ ?_); exact rfl; clear sh; (try clear F); go_simp; intro b w1 sh; have F := sh.facts; (try simp only [Hp.Facts, Hp.CellsAt, Nat.reduceAdd, List.cons_append, List.nil_append] at F))
          | ((with_reducible refine Hp.wpl_alloc Try.z_health sh ?_ ?_); exact rfl; clear sh; (try clear F); go_simp; intro b w1 sh; have F := sh.facts; (try simp only [Hp.Facts, Hp.CellsAt, Nat.reduceAdd, List.cons_append, List.nil_append] at F))
          | ((with_reducible refine Hp.wpl_alloc Try.z_part sh ?_ ?_); exact rfl; clear sh; (try clear F); go_simp; intro b w1 sh; have F := sh.facts; (try simp only [Hp.Facts, Hp.CellsAt, Nat.reduceAdd, List.cons_append, List.nil_append] at F))
          | ((with_reducible refine Hp.atl_store ?_ ?_); exact rfl; (first | refine Hp.wp_store 0 sh rfl rfl rfl rfl (by kernel_rfl) (Nat.le_of_ble_eq_true rfl) rfl ?_ | refine Hp.wp_store 1 sh rfl rfl rfl rfl (by kernel_rfl) (Nat.le_of_ble_eq_true rfl) rfl ?_ | refine Hp.wp_store 2 sh rfl rfl rfl rfl (by kernel_rfl) (Nat.le_of_ble_eq_true rfl) rfl ?_ | refine Hp.wp_store 3 sh rfl rfl rfl rfl (by kernel_rfl) (Nat.le_of_ble_eq_true rfl) rfl ?_ | refine Hp.wp_store 4 sh rfl rfl rfl rfl (by kernel_rfl) (Nat.le_of_ble_eq_true rfl) rfl ?_ | refine Hp.wp_store 5 sh rfl rfl rfl rfl (by kernel_rfl) (Nat.le_of_ble_eq_true rfl) rfl ?_ | refine Hp.wp_store 6 sh rfl rfl rfl rfl (by kernel_rfl) (Nat.le_of_ble_eq_true rfl) rfl ?_); clear sh; (try clear F); go_simp; intro w1 sh; have F := sh.facts; (try simp only [Hp.Facts, Hp.CellsAt, Nat.reduceAdd, List.cons_append, List.nil_append] at F))
          | fail)
      go_fit (HI.out _)
      rintro e w1 ⟨rfl, hb⟩
      replace sh := sh.call hb; clear hb; (try clear F); have F := sh.facts; (try simp only [Hp.Facts, Hp.CellsAt, Nat.reduceAdd, List.cons_append, List.nil_append] at F)
      go_wp2_with (first
          | ((with_reducible refine Hp.wpl_box sh ?_ ?_); exact rfl; clear sh; (try clear F); go_simp; intro b w1 sh; have F := sh.facts; (try simp only [Hp.Facts, Hp.CellsAt, Nat.reduceAdd, List.cons_append, List.nil_append] at F))
          | ((with_reducible refine Hp.wpl_alloc Try.z_health sh ?_ ?_); exact rfl; clear sh; (try clear F); go_simp; intro b w1 sh; have F := sh.facts; (try simp only [Hp.Facts, Hp.CellsAt, Nat.reduceAdd, List.cons_append, List.nil_append] at F))
          | ((with_reducible refine Hp.wpl_alloc Try.z_part sh ?_ ?_); exact rfl; clear sh; (try clear F); go_simp; intro b w1 sh; have F := sh.facts; (try simp only [Hp.Facts, Hp.CellsAt, Nat.reduceAdd, List.cons_append, List.nil_append] at F))
          | ((with_reducible refine Hp.atl_store ?_ ?_); exact rfl; (first | refine Hp.wp_store 0 sh rfl rfl rfl rfl (by kernel_rfl) (Nat.le_of_ble_eq_true rfl) rfl ?_ | refine Hp.wp_store 1 sh rfl rfl rfl rfl (by kernel_rfl) (Nat.le_of_ble_eq_true rfl) rfl ?_ | refine Hp.wp_store 2 sh rfl rfl rfl rfl (by kernel_rfl) (Nat.le_of_ble_eq_true rfl) rfl ?_ | refine Hp.wp_store 3 sh rfl rfl rfl rfl (by kernel_rfl) (Nat.le_of_ble_eq_true rfl) rfl ?_ | refine Hp.wp_store 4 sh rfl rfl rfl rfl (by kernel_rfl) (Nat.le_of_ble_eq_true rfl) rfl ?_ | refine Hp.wp_store 5 sh rfl rfl rfl rfl (by kernel_rfl) (Nat.le_of_ble_eq_true rfl) rfl ?_ | refine Hp.wp_store 6 sh rfl rfl rfl rfl (by kernel_rfl) (Nat.le_of_ble_eq_true rfl) rfl ?_); clear sh; (try clear F); go_simp; intro w1 sh; have F := sh.facts; (try simp only [Hp.Facts, Hp.CellsAt, Nat.reduceAdd, List.cons_append, List.nil_append] at F))
          | fail)
      go_fit (HH.out _)
      rintro e w1 ⟨rfl, hb⟩
      replace sh := sh.call hb; clear hb; (try clear F); have F := sh.facts; (try simp only [Hp.Facts, Hp.CellsAt, Nat.reduceAdd, List.cons_append, List.nil_append] at F)
      go_wp2_with (first
          | ((with_reducible refine Hp.wpl_box sh ?_ ?_); exact rfl; clear sh; (try clear F); go_simp; intro b w1 sh; have F := sh.facts; (try simp only [Hp.Facts, Hp.CellsAt, Nat.reduceAdd, List.cons_append, List.nil_append] at F))
          | ((with_reducible refine Hp.wpl_alloc Try.z_health sh ?_ ?_); exact rfl; clear sh; (try clear F); go_simp; intro b w1 sh; have F := sh.facts; (try simp only [Hp.Facts, Hp.CellsAt, Nat.reduceAdd, List.cons_append, List.nil_append] at F))
          | ((with_reducible refine Hp.wpl_alloc Try.z_part sh ?_ ?_); exact rfl; clear sh; (try clear F); go_simp; intro b w1 sh; have F := sh.facts; (try simp only [Hp.Facts, Hp.CellsAt, Nat.reduceAdd, List.cons_append, List.nil_append] at F))
          | ((with_reducible refine Hp.atl_store ?_ ?_); exact rfl; (first | refine Hp.wp_store 0 sh rfl rfl rfl rfl (by kernel_rfl) (Nat.le_of_ble_eq_true rfl) rfl ?_ | refine Hp.wp_store 1 sh rfl rfl rfl rfl (by kernel_rfl) (Nat.le_of_ble_eq_true rfl) rfl ?_ | refine Hp.wp_store 2 sh rfl rfl rfl rfl (by kernel_rfl) (Nat.le_of_ble_eq_true rfl) rfl ?_ | refine Hp.wp_store 3 sh rfl rfl rfl rfl (by kernel_rfl) (Nat.le_of_ble_eq_true rfl) rfl ?_ | refine Hp.wp_store 4 sh rfl rfl rfl rfl (by kernel_rfl) (Nat.le_of_ble_eq_true rfl) rfl ?_ | refine Hp.wp_store 5 sh rfl rfl rfl rfl (by kernel_rfl) (Nat.le_of_ble_eq_true rfl) rfl ?_ | refine Hp.wp_store 6 sh rfl rfl rfl rfl (by kernel_rfl) (Nat.le_of_ble_eq_true rfl) rfl ?_); clear sh; (try clear F); go_simp; intro w1 sh; have F := sh.facts; (try simp only [Hp.Facts, Hp.CellsAt, Nat.reduceAdd, List.cons_append, List.nil_append] at F))
          | fail)
      go_ret
      exact ⟨rfl, sh.below⟩
    · have h2 : ¬ n < 0 := by omega
      go_enter Try.func5, Try.ntmps5
      have tok_bp : True := trivial
      go_wp2_with (first
          | ((have tok := tok_bp); clear tok tok_bp; (first | (with_reducible refine Hp.wpl_box sh ?_ ?_) | (with_reducible refine Hp.wpl_alloc Try.z_health sh ?_ ?_) | (with_reducible refine Hp.wpl_alloc Try.z_part sh ?_ ?_)); exact rfl; clear sh; (try clear F); go_simp; intro bp w1 sh; have F := sh.facts; (try simp only [Hp.Facts, Hp.CellsAt, Nat.reduceAdd, List.cons_append, List.nil_append] at F))
          | ((with_reducible refine Hp.wpl_box sh ?_ ?_); exact rfl; clear sh; (try clear F); go_simp; intro b w1 sh; have F := sh.facts; (try simp only [Hp.Facts, Hp.CellsAt, Nat.reduceAdd, List.cons_append, List.nil_append] at F))
          | ((with_reducible refine Hp.wpl_alloc Try.z_health sh ?_ ?_); exact rfl; clear sh; (try clear F); go_simp; intro b w1 sh; have F := sh.facts; (try simp only [Hp.Facts, Hp.CellsAt, Nat.reduceAdd, List.cons_append, List.nil_append] at F))
          | ((with_reducible refine Hp.wpl_alloc Try.z_part sh ?_ ?_); exact rfl; clear sh; (try clear F); go_simp; intro b w1 sh; have F := sh.facts; (try simp only [Hp.Facts, Hp.CellsAt, Nat.reduceAdd, List.cons_append, List.nil_append] at F))
          | ((with_reducible refine Hp.atl_store ?_ ?_); exact rfl; (first | refine Hp.wp_store 0 sh rfl rfl rfl rfl (by kernel_rfl) (Nat.le_of_ble_eq_true rfl) rfl ?_ | refine Hp.wp_store 1 sh rfl rfl rfl rfl (by kernel_rfl) (Nat.le_of_ble_eq_true rfl) rfl ?_ | refine Hp.wp_store 2 sh rfl rfl rfl rfl (by kernel_rfl) (Nat.le_of_ble_eq_true rfl) rfl ?_ | refine Hp.wp_store 3 sh rfl rfl rfl rfl (by kernel_rfl) (Nat.le_of_ble_eq_true rfl) rfl ?_ | refine Hp.wp_store 4 sh rfl rfl rfl rfl (by kernel_rfl) (Nat.le_of_ble_eq_true rfl) rfl ?_ | refine Hp.wp_store 5 sh rfl rfl rfl rfl (by kernel_rfl) (Nat.le_of_ble_eq_true rfl) rfl ?_ | refine Hp.wp_store 6 sh rfl rfl rfl rfl (by kernel_rfl) (Nat.le_of_ble_eq_true rfl) rfl ?_); clear sh; (try clear F); go_simp; intro w1 sh; have F := sh.facts; (try simp only [Hp.Facts, Hp.CellsAt, Nat.reduceAdd, List.cons_append, List.nil_append] at F))
          | fail)
      go_fit (HA.out w _ _ _ sh)
      clear sh; (try clear F)
      rintro e w1 ⟨s, c, rfl, sh⟩
      have F := sh.facts; (try simp only [Hp.Facts, Hp.CellsAt, Nat.reduceAdd, List.cons_append, List.nil_append] at F)
      have tok_bh : True := trivial
      go_wp2_with (first
          | ((have tok := tok_bh); clear tok tok_bh; (first | (with_reducible refine Hp.wpl_box sh ?_ ?_) | (with_reducible refine Hp.wpl_alloc Try.z_health sh ?_ ?_) | (with_reducible refine Hp.wpl_alloc Try.z_part sh ?_ ?_)); exact rfl; clear sh; (try clear F); go_simp; intro bh w1 sh; have F := sh.facts; (try simp only [Hp.Facts, Hp.CellsAt, Nat.reduceAdd, List.cons_append, List.nil_append] at F))
          | ((with_reducible refine Hp.wpl_box sh ?_ ?_); exact rfl; clear sh; (try clear F); go_simp; intro b w1 sh; have F := sh.facts; (try simp only [Hp.Facts, Hp.CellsAt, Nat.reduceAdd, List.cons_append, List.nil_append] at F))
          | ((with_reducible refine Hp.wpl_alloc Try.z_health sh ?_ ?_); exact rfl; clear sh; (try clear F); go_simp; intro b w1 sh; have F := sh.facts; (try simp only [Hp.Facts, Hp.CellsAt, Nat.reduceAdd, List.cons_append, List.nil_append] at F))
          | ((with_reducible refine Hp.wpl_alloc Try.z_part sh ?_ ?_); exact rfl; clear sh; (try clear F); go_simp; intro b w1 sh; have F := sh.facts; (try simp only [Hp.Facts, Hp.CellsAt, Nat.reduceAdd, List.cons_append, List.nil_append] at F))
          | ((with_reducible refine Hp.atl_store ?_ ?_); exact rfl; (first | refine Hp.wp_store 0 sh rfl rfl rfl rfl (by kernel_rfl) (Nat.le_of_ble_eq_true rfl) rfl ?_ | refine Hp.wp_store 1 sh rfl rfl rfl rfl (by kernel_rfl) (Nat.le_of_ble_eq_true rfl) rfl ?_ | refine Hp.wp_store 2 sh rfl rfl rfl rfl (by kernel_rfl) (Nat.le_of_ble_eq_true rfl) rfl ?_ | refine Hp.wp_store 3 sh rfl rfl rfl rfl (by kernel_rfl) (Nat.le_of_ble_eq_true rfl) rfl ?_ | refine Hp.wp_store 4 sh rfl rfl rfl rfl (by kernel_rfl) (Nat.le_of_ble_eq_true rfl) rfl ?_ | refine Hp.wp_store 5 sh rfl rfl rfl rfl (by kernel_rfl) (Nat.le_of_ble_eq_true rfl) rfl ?_ | refine Hp.wp_store 6 sh rfl rfl rfl rfl (by kernel_rfl) (Nat.le_of_ble_eq_true rfl) rfl ?_); clear sh; (try clear F); go_simp; intro w1 sh; have F := sh.facts; (try simp only [Hp.Facts, Hp.CellsAt, Nat.reduceAdd, List.cons_append, List.nil_append] at F))
          | fail)
      go_fit (HI.out _)
      rintro e w1 ⟨rfl, hb⟩
      replace sh := sh.call hb; clear hb; (try clear F); have F := sh.facts; (try simp only [Hp.Facts, Hp.CellsAt, Nat.reduceAdd, List.cons_append, List.nil_append] at F)
      go_wp2_with (first
          | ((with_reducible refine Hp.wpl_box sh ?_ ?_); exact rfl; clear sh; (try clear F); go_simp; intro b w1 sh; have F := sh.facts; (try simp only [Hp.Facts, Hp.CellsAt, Nat.reduceAdd, List.cons_append, List.nil_append] at F))
          | ((with_reducible refine Hp.wpl_alloc Try.z_health sh ?_ ?_); exact rfl; clear sh; (try clear F); go_simp; intro b w1 sh; have F := sh.facts; (try simp only [Hp.Facts, Hp.CellsAt, Nat.reduceAdd, List.cons_append, List.nil_append] at F))
          | ((with_reducible refine Hp.wpl_alloc Try.z_part sh ?_ ?_); exact rfl; clear sh; (try clear F); go_simp; intro b w1 sh; have F := sh.facts; (try simp only [Hp.Facts, Hp.CellsAt, Nat.reduceAdd, List.cons_append, List.nil_append] at F))
          | ((with_reducible refine Hp.atl_store ?_ ?_); exact rfl; (first | refine Hp.wp_store 0 sh rfl rfl rfl rfl (by kernel_rfl) (Nat.le_of_ble_eq_true rfl) rfl ?_ | refine Hp.wp_store 1 sh rfl rfl rfl rfl (by kernel_rfl) (Nat.le_of_ble_eq_true rfl) rfl ?_ | refine Hp.wp_store 2 sh rfl rfl rfl rfl (by kernel_rfl) (Nat.le_of_ble_eq_true rfl) rfl ?_ | refine Hp.wp_store 3 sh rfl rfl rfl rfl (by kernel_rfl) (Nat.le_of_ble_eq_true rfl) rfl ?_ | refine Hp.wp_store 4 sh rfl rfl rfl rfl (by kernel_rfl) (Nat.le_of_ble_eq_true rfl) rfl ?_ | refine Hp.wp_store 5 sh rfl rfl rfl rfl (by kernel_rfl) (Nat.le_of_ble_eq_true rfl) rfl ?_ | refine Hp.wp_store 6 sh rfl rfl rfl rfl (by kernel_rfl) (Nat.le_of_ble_eq_true rfl) rfl ?_); clear sh; (try clear F); go_simp; intro w1 sh; have F := sh.facts; (try simp only [Hp.Facts, Hp.CellsAt, Nat.reduceAdd, List.cons_append, List.nil_append] at F))
          | fail)
      go_fit (HH.out _)
      rintro e w1 ⟨rfl, hb⟩
      replace sh := sh.call hb; clear hb; (try clear F); have F := sh.facts; (try simp only [Hp.Facts, Hp.CellsAt, Nat.reduceAdd, List.cons_append, List.nil_append] at F)
      go_wp2_with (first
          | ((with_reducible refine Hp.wpl_box sh ?_ ?_); exact rfl; clear sh; (try clear F); go_simp; intro b w1 sh; have F := sh.facts; (try simp only [Hp.Facts, Hp.CellsAt, Nat.reduceAdd, List.cons_append, List.nil_append] at F))
          | ((with_reducible refine Hp.wpl_alloc Try.z_health sh ?_ ?_); exact rfl; clear sh; (try clear F); go_simp; intro b w1 sh; have F := sh.facts; (try simp only [Hp.Facts, Hp.CellsAt, Nat.reduceAdd, List.cons_append, List.nil_append] at F))
          | ((with_reducible refine Hp.wpl_alloc Try.z_part sh ?_ ?_); exact rfl; clear sh; (try clear F); go_simp; intro b w1 sh; have F := sh.facts; (try simp only [Hp.Facts, Hp.CellsAt, Nat.reduceAdd, List.cons_append, List.nil_append] at F))
          | ((with_reducible refine Hp.atl_store ?_ ?_); exact rfl; (first | refine Hp.wp_store 0 sh rfl rfl rfl rfl (by kernel_rfl) (Nat.le_of_ble_eq_true rfl) rfl ?_ | refine Hp.wp_store 1 sh rfl rfl rfl rfl (by kernel_rfl) (Nat.le_of_ble_eq_true rfl) rfl ?_ | refine Hp.wp_store 2 sh rfl rfl rfl rfl (by kernel_rfl) (Nat.le_of_ble_eq_true rfl) rfl ?_ | refine Hp.wp_store 3 sh rfl rfl rfl rfl (by kernel_rfl) (Nat.le_of_ble_eq_true rfl) rfl ?_ | refine Hp.wp_store 4 sh rfl rfl rfl rfl (by kernel_rfl) (Nat.le_of_ble_eq_true rfl) rfl ?_ | refine Hp.wp_store 5 sh rfl rfl rfl rfl (by kernel_rfl) (Nat.le_of_ble_eq_true rfl) rfl ?_ | refine Hp.wp_store 6 sh rfl rfl rfl rfl (by kernel_rfl) (Nat.le_of_ble_eq_true rfl) rfl ?_); clear sh; (try clear F); go_simp; intro w1 sh; have F := sh.facts; (try simp only [Hp.Facts, Hp.CellsAt, Nat.reduceAdd, List.cons_append, List.nil_append] at F))
          | fail)
      go_ret
      exact ⟨rfl, sh.below⟩

theorem healthEnds_walk (p0 p1 p2 : Int) (cs : Option Addr) (cn cc : Nat) (fa ag n : Int) (w : World) (hfa : -9223372036854775808 ≤ fa ∧ fa ≤ 9223372036854775807) (hag : -9223372036854775808 ≤ ag ∧ ag ≤ 9223372036854775807) (hn : -9223372036854775808 ≤ n ∧ n ≤ 9223372036854775807) :
    Calls Try.prog 5 #[.agg #[.int .i64 p0, .int .i64 p1, .int .i64 p2, .slice cs cn cc, .int .i64 fa, .int .i64 ag], .int .i64 n] w fun e w' => e = .returned (.bool true) ∧ Below w.heap.size w w' := by
  by_cases h : HeaP.ok fa ag 0 0 = false ∨ n < 0 ∨ 1000 < n
  · exact ends_no p0 p1 p2 cs cn cc fa ag n w hfa hag hn h
  · have h1 : HeaP.ok fa ag 0 0 = true := by
      cases hc : HeaP.ok fa ag 0 0
      · exact absurd (.inl hc) h
      · rfl
    have h2 : ¬ n < 0 ∧ ¬ 1000 < n := ⟨fun k => h (.inr (.inl k)), fun k => h (.inr (.inr k))⟩
    obtain ⟨k1, k2, k3, k4, k5, k6, k7, k8, k9⟩ := HeaP.ok_iff.1 h1
    clear h h1
    by_cases f1 : fa = 1
    · subst f1
      obtain ⟨r, rfl⟩ := Int.eq_ofNat_of_zero_le (show 0 ≤ n by omega)
      exact ends1 p0 p1 p2 cs cn cc ag r k3 k4 (by omega) w
    · by_cases f2 : fa = 2
      · subst f2
        by_cases g1 : n ≤ ag
        · obtain ⟨r, rfl⟩ := Int.eq_ofNat_of_zero_le (show 0 ≤ n by omega)
          exact ends2 p0 p1 p2 cs cn cc ag r k3 k4 g1 w
        · obtain ⟨q, rfl⟩ := Int.eq_ofNat_of_zero_le k3
          by_cases g2 : n = (q : Int) + 1
          · subst g2
            exact ends2e p0 p1 p2 cs cn cc q (by omega) w
          · exact ends2d p0 p1 p2 cs cn cc q (by omega) n (by omega) (by omega) w
      · obtain rfl : fa = 3 := by omega
        by_cases g1 : n = 0
        · subst g1
          exact ends3z p0 p1 p2 cs cn cc ag k3 k4 w
        · by_cases g2 : n = 1
          · subst g2
            exact ends3e p0 p1 p2 cs cn cc ag k3 k4 w
          · exact ends3 p0 p1 p2 cs cn cc ag k3 k4 n (by omega) (by omega) w

end Go.Proofs.Ytbebcbbjbnohnaa
