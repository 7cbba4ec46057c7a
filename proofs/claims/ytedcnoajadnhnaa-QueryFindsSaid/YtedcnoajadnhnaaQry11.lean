
/-
  The walk of Build.
-/
import Derived.Test.YtedcnoajadnhnaaQry10
namespace Go.Proofs.Ytedcnoajadnhnaa
open Go.RowKit
set_option linter.unusedVariables false
set_option linter.unusedSimpArgs false

namespace QryP
def bldN (step : Nat) : List Ev → Nat → List Bk → List Bk
  | [], _, bs => bs
  | x :: r, k, bs => bldN step r (k + 1) (if k % step = 0 then bs ++ [ofE k x] else bs.take (bs.length - 1) ++ [join (bs.getD (bs.length - 1) zeroB) (ofE k x)])
def build (step : Int) (l : List Ev) : List Bk × Int := if decide (step < 1) || (decide (256 < step) || !EvP.runB l) then ([], 1) else (bldN step.toNat l 0 [], 0)
theorem bld_new {step k : Nat} {x : Ev} {r : List Ev} {bs : List Bk} (h : k % step = 0) : bldN step (x :: r) k bs = bldN step r (k + 1) (bs ++ [ofE k x]) := by rw [bldN, if_pos h]
theorem bld_old {step k m : Nat} {x : Ev} {r : List Ev} {bs : List Bk} {b : Bk} (h : ¬ k % step = 0) (hl : bs.length = m + 1) (hb : bs[m]'(by omega) = b) : bldN step (x :: r) k bs = bldN step r (k + 1) (bs.take m ++ [join b (ofE k x)]) := by
  rw [bldN, if_neg h, hl, Nat.add_sub_cancel, List.getD_eq_getElem?_getD, List.getElem?_eq_getElem (by omega), hb]; rfl
theorem dropE_get {l : List Ev} {k : Nat} {x : Ev} (h : k < l.length) (hx : l[k] = x) : l.drop k = x :: l.drop (k + 1) := by rw [← hx]; exact List.drop_eq_getElem_cons h
theorem flatB_take : ∀ (a : Nat) (l : List Bk), (l.take a).flatMap bc = (l.flatMap bc).take (a * 7)
  | 0, l => by simp
  | a + 1, [] => by simp
  | a + 1, x :: r => by
    rw [List.take_succ_cons, List.flatMap_cons, flatB_take a r, List.flatMap_cons, show (a + 1) * 7 = (bc x).length + a * 7 by rw [bc_len]; omega, List.take_length_add_append]
theorem bks_app (A : List Bk) (x : Bk) : A.flatMap bc ++ bc x = (A ++ [x]).flatMap bc := by simp
theorem row_put {e : TypeId} {g cap N m : Nat} {cur : Array Value} {bs : List Bk} (b' : Bk) (h : Hp.RowIs e 7 (.slice (some ⟨g, 0, none⟩) N cap) N (bs.flatMap bc) [(g, cur, e)]) (hl : bs.length = N) (hm : N = m + 1) : Hp.RowIs e 7 (.slice (some ⟨g, 0, none⟩) N cap) N ((bs.take m ++ [b']).flatMap bc) [(g, Hp.putCells cur (m * 7) (bc b'), e)] := by
  have hsz : ((bs.take m ++ [b']).flatMap bc).length = N * 7 := by
    rw [Hp.flat_length bc_len]
    simp; omega
  refine ⟨hsz, .inr ?_⟩
  rcases h.2 with ⟨h1, -, -⟩ | ⟨g', cap', cur', h1, h2, h3, h4, h5, h6⟩
  · cases h1
  · cases h1
    simp only [List.cons.injEq, Prod.mk.injEq, and_true, true_and] at h2
    subst h2
    refine ⟨g, cap, _, rfl, rfl, h3, h4, by rw [Hp.putCells_size]; exact h5, ?_⟩
    apply List.ext_getElem?
    intro j
    rw [List.flatMap_append, flatB_take, ← h6, List.take_take]
    rw [List.getElem?_take, Array.getElem?_toList, Hp.putCells_get, bc_len]
    have hfl : (List.take (min (m * 7) (N * 7)) cur.toList).length = m * 7 := by
      rw [List.length_take, Array.length_toList, h5]; omega
    have hb1 : (List.flatMap bc [b']).length = 7 := rfl
    by_cases c1 : j < m * 7
    · rw [List.getElem?_append_left (by rw [hfl]; exact c1), List.getElem?_take, if_pos (show j < N * 7 by omega), if_pos (show j < min (m * 7) (N * 7) by omega), if_neg (show ¬ (m * 7 ≤ j ∧ j < m * 7 + 7 ∧ j < cur.size) by omega), Array.getElem?_toList]
    · rw [List.getElem?_append_right (by rw [hfl]; omega), hfl]
      by_cases c2 : j < N * 7
      · rw [if_pos c2, if_pos (⟨by omega, by omega, by omega⟩ : m * 7 ≤ j ∧ j < m * 7 + 7 ∧ j < cur.size)]; simp
      · rw [if_neg c2, List.getElem?_eq_none (by rw [hb1]; omega)]
def BldP (X : List Bk × Int) (w : World) (e : Ending) (w' : World) : Prop := ∃ s c, e = .returned (.tuple #[.slice s X.1.length c, .int .i64 X.2]) ∧ (∀ p, s = some p → w.heap.size ≤ p.block) ∧ Hp.RdV w' s (X.1.flatMap bc) ∧ Below w.heap.size w w' ∧ X.1.length ≤ c ∧ c ≤ maxLen ∧ (s = none → X.1.length = 0 ∧ c = 0)
theorem BldP.none {step : Int} {l : List Ev} {w w' : World} (h : (decide (step < 1) || (decide (256 < step) || !EvP.runB l)) = true) (hb : Below w.heap.size w w') {e : Ending} (he : e = .returned (.tuple #[.slice none 0 0, .int .i64 1])) : BldP (build step l) w e w' := by
  unfold build
  rw [if_pos h]
  exact ⟨_, 0, he, (fun p hp => by cases hp), Hp.RdV.nil _ _, hb, Nat.le_refl _, by simp [maxLen], fun _ => ⟨rfl, rfl⟩⟩
theorem BldP.mk {X : List Bk × Int} {L : List Bk} {w w' : World} {H R : List Hp.Blk} {D : World → Prop} {s : Option Addr} {c n : Nat} (hX : X = (L, 0)) (hn : L.length = n) (sh : Hp.Sh w w' (R ++ H) D) (hr : Hp.RowIs 28 7 (.slice s n c) n (L.flatMap bc) R) {e : Ending} (he : e = .returned (.tuple #[.slice s n c, .int .i64 0])) : BldP X w e w' := by
  subst hX hn
  obtain ⟨s', c', h1, h2, h3, h4⟩ := hr.slice
  cases h1
  exact ⟨s, c, he, Hp.row_new sh hr, Hp.Sh.cells sh hr, sh.below, h3, h4, h2⟩
end QryP
theorem Try.i_blk : (Try.prog.info? 28).map (fun i => (i.zero, i.size, i.bytes)) = some (some (.agg #[.int .i64 0, .int .i64 0, .int .u64 0, .int .i64 0, .int .i64 0, .int .u64 0, .int .u64 0]), 7, 56) := by kernel_rfl

set_option maxHeartbeats 4000000 in
set_option maxRecDepth 100000 in
theorem qbuild (step : Int) (s0 : Option Addr) (l : List EvP.Ev) (n c : Nat) (hn : n = l.length) (hnc : n ≤ c) (hm : n ≤ 2000) (hE : ∀ x ∈ l, EvP.EvB x) (w : World) (hR : Hp.RdV w s0 (l.flatMap EvP.evc)) :
    Calls Try.prog 13 #[.int .i64 step, .slice s0 n c] w fun e w' => QryP.BldP (QryP.build step l) w e w' := by
  have sh := (Hp.Sh.start (RdV_rob hR) : Hp.Sh w w [] (fun W => Hp.RdV W s0 (l.flatMap EvP.evc)))
  have KR := Lib.hid (fun W q => erun s0 l n c hn hnc hm hE W q)
  have HN := Lib.hid hn
  have HE0 := Lib.hid hE
  clear hn hE hR
  by_cases c1 : step < 1
  · have HX := Lib.hid (show (decide (step < 1) || (decide (256 < step) || !EvP.runB l)) = true by simp [c1])
    go_enter Try.func13, Try.ntmps13
    have F := sh.facts; (try simp only [Hp.Facts, Hp.CellsAt, Nat.reduceAdd, List.cons_append, List.nil_append] at F)
    go_wp2_with (first
        | ((with_reducible refine Hp.wpl_box sh ?_ ?_); exact rfl; clear sh; (try clear F); go_simp; intro b w1 sh; have F := sh.facts; (try simp only [Hp.Facts, Hp.CellsAt, Nat.reduceAdd, List.cons_append, List.nil_append] at F))
        | ((with_reducible refine Hp.wpl_alloc Try.z_ev sh ?_ ?_); exact rfl; clear sh; (try clear F); go_simp; intro b w1 sh; have F := sh.facts; (try simp only [Hp.Facts, Hp.CellsAt, Nat.reduceAdd, List.cons_append, List.nil_append] at F))
        | ((with_reducible refine Hp.wpl_alloc Try.z_blk sh ?_ ?_); exact rfl; clear sh; (try clear F); go_simp; intro b w1 sh; have F := sh.facts; (try simp only [Hp.Facts, Hp.CellsAt, Nat.reduceAdd, List.cons_append, List.nil_append] at F))
        | ((with_reducible refine Hp.atl_store ?_ ?_); exact rfl; (first | refine Hp.wp_store 0 sh rfl rfl rfl rfl (by kernel_rfl) (Nat.le_of_ble_eq_true rfl) rfl ?_ | refine Hp.wp_store 1 sh rfl rfl rfl rfl (by kernel_rfl) (Nat.le_of_ble_eq_true rfl) rfl ?_ | refine Hp.wp_store 2 sh rfl rfl rfl rfl (by kernel_rfl) (Nat.le_of_ble_eq_true rfl) rfl ?_ | refine Hp.wp_store 3 sh rfl rfl rfl rfl (by kernel_rfl) (Nat.le_of_ble_eq_true rfl) rfl ?_ | refine Hp.wp_store 4 sh rfl rfl rfl rfl (by kernel_rfl) (Nat.le_of_ble_eq_true rfl) rfl ?_ | refine Hp.wp_store 5 sh rfl rfl rfl rfl (by kernel_rfl) (Nat.le_of_ble_eq_true rfl) rfl ?_ | refine Hp.wp_store 6 sh rfl rfl rfl rfl (by kernel_rfl) (Nat.le_of_ble_eq_true rfl) rfl ?_); clear sh; (try clear F); go_simp; intro w1 sh; have F := sh.facts; (try simp only [Hp.Facts, Hp.CellsAt, Nat.reduceAdd, List.cons_append, List.nil_append] at F))
        | fail)
    go_ret2
    exact QryP.BldP.none HX.out sh.below rfl
  · by_cases c2 : 256 < step
    · have HX := Lib.hid (show (decide (step < 1) || (decide (256 < step) || !EvP.runB l)) = true by simp [c2])
      go_enter Try.func13, Try.ntmps13
      have F := sh.facts; (try simp only [Hp.Facts, Hp.CellsAt, Nat.reduceAdd, List.cons_append, List.nil_append] at F)
      go_wp2_with (first
          | ((with_reducible refine Hp.wpl_box sh ?_ ?_); exact rfl; clear sh; (try clear F); go_simp; intro b w1 sh; have F := sh.facts; (try simp only [Hp.Facts, Hp.CellsAt, Nat.reduceAdd, List.cons_append, List.nil_append] at F))
          | ((with_reducible refine Hp.wpl_alloc Try.z_ev sh ?_ ?_); exact rfl; clear sh; (try clear F); go_simp; intro b w1 sh; have F := sh.facts; (try simp only [Hp.Facts, Hp.CellsAt, Nat.reduceAdd, List.cons_append, List.nil_append] at F))
          | ((with_reducible refine Hp.wpl_alloc Try.z_blk sh ?_ ?_); exact rfl; clear sh; (try clear F); go_simp; intro b w1 sh; have F := sh.facts; (try simp only [Hp.Facts, Hp.CellsAt, Nat.reduceAdd, List.cons_append, List.nil_append] at F))
          | ((with_reducible refine Hp.atl_store ?_ ?_); exact rfl; (first | refine Hp.wp_store 0 sh rfl rfl rfl rfl (by kernel_rfl) (Nat.le_of_ble_eq_true rfl) rfl ?_ | refine Hp.wp_store 1 sh rfl rfl rfl rfl (by kernel_rfl) (Nat.le_of_ble_eq_true rfl) rfl ?_ | refine Hp.wp_store 2 sh rfl rfl rfl rfl (by kernel_rfl) (Nat.le_of_ble_eq_true rfl) rfl ?_ | refine Hp.wp_store 3 sh rfl rfl rfl rfl (by kernel_rfl) (Nat.le_of_ble_eq_true rfl) rfl ?_ | refine Hp.wp_store 4 sh rfl rfl rfl rfl (by kernel_rfl) (Nat.le_of_ble_eq_true rfl) rfl ?_ | refine Hp.wp_store 5 sh rfl rfl rfl rfl (by kernel_rfl) (Nat.le_of_ble_eq_true rfl) rfl ?_ | refine Hp.wp_store 6 sh rfl rfl rfl rfl (by kernel_rfl) (Nat.le_of_ble_eq_true rfl) rfl ?_); clear sh; (try clear F); go_simp; intro w1 sh; have F := sh.facts; (try simp only [Hp.Facts, Hp.CellsAt, Nat.reduceAdd, List.cons_append, List.nil_append] at F))
          | fail)
      go_ret2
      exact QryP.BldP.none HX.out sh.below rfl
    · cases hrn : EvP.runB l with
      | false =>
        rw [hrn] at KR
        have HX := Lib.hid (show (decide (step < 1) || (decide (256 < step) || !EvP.runB l)) = true by simp [hrn])
        clear hrn
        go_enter Try.func13, Try.ntmps13
        have F := sh.facts; (try simp only [Hp.Facts, Hp.CellsAt, Nat.reduceAdd, List.cons_append, List.nil_append] at F)
        go_wp2_with (first
            | ((with_reducible refine Hp.wpl_box sh ?_ ?_); exact rfl; clear sh; (try clear F); go_simp; intro b w1 sh; have F := sh.facts; (try simp only [Hp.Facts, Hp.CellsAt, Nat.reduceAdd, List.cons_append, List.nil_append] at F))
            | ((with_reducible refine Hp.wpl_alloc Try.z_ev sh ?_ ?_); exact rfl; clear sh; (try clear F); go_simp; intro b w1 sh; have F := sh.facts; (try simp only [Hp.Facts, Hp.CellsAt, Nat.reduceAdd, List.cons_append, List.nil_append] at F))
            | ((with_reducible refine Hp.wpl_alloc Try.z_blk sh ?_ ?_); exact rfl; clear sh; (try clear F); go_simp; intro b w1 sh; have F := sh.facts; (try simp only [Hp.Facts, Hp.CellsAt, Nat.reduceAdd, List.cons_append, List.nil_append] at F))
            | ((with_reducible refine Hp.atl_store ?_ ?_); exact rfl; (first | refine Hp.wp_store 0 sh rfl rfl rfl rfl (by kernel_rfl) (Nat.le_of_ble_eq_true rfl) rfl ?_ | refine Hp.wp_store 1 sh rfl rfl rfl rfl (by kernel_rfl) (Nat.le_of_ble_eq_true rfl) rfl ?_ | refine Hp.wp_store 2 sh rfl rfl rfl rfl (by kernel_rfl) (Nat.le_of_ble_eq_true rfl) rfl ?_ | refine Hp.wp_store 3 sh rfl rfl rfl rfl (by kernel_rfl) (Nat.le_of_ble_eq_true rfl) rfl ?_ | refine Hp.wp_store 4 sh rfl rfl rfl rfl (by kernel_rfl) (Nat.le_of_ble_eq_true rfl) rfl ?_ | refine Hp.wp_store 5 sh rfl rfl rfl rfl (by kernel_rfl) (Nat.le_of_ble_eq_true rfl) rfl ?_ | refine Hp.wp_store 6 sh rfl rfl rfl rfl (by kernel_rfl) (Nat.le_of_ble_eq_true rfl) rfl ?_); clear sh; (try clear F); go_simp; intro w1 sh; have F := sh.facts; (try simp only [Hp.Facts, Hp.CellsAt, Nat.reduceAdd, List.cons_append, List.nil_append] at F))
            | fail)
        go_fit (KR.out _ sh.data)
        rintro e w1 ⟨rfl, hb⟩
        replace sh := sh.call hb; clear hb; (try clear F); have F := sh.facts; (try simp only [Hp.Facts, Hp.CellsAt, Nat.reduceAdd, List.cons_append, List.nil_append] at F)
        go_wp2_with (first
            | ((with_reducible refine Hp.wpl_box sh ?_ ?_); exact rfl; clear sh; (try clear F); go_simp; intro b w1 sh; have F := sh.facts; (try simp only [Hp.Facts, Hp.CellsAt, Nat.reduceAdd, List.cons_append, List.nil_append] at F))
            | ((with_reducible refine Hp.wpl_alloc Try.z_ev sh ?_ ?_); exact rfl; clear sh; (try clear F); go_simp; intro b w1 sh; have F := sh.facts; (try simp only [Hp.Facts, Hp.CellsAt, Nat.reduceAdd, List.cons_append, List.nil_append] at F))
            | ((with_reducible refine Hp.wpl_alloc Try.z_blk sh ?_ ?_); exact rfl; clear sh; (try clear F); go_simp; intro b w1 sh; have F := sh.facts; (try simp only [Hp.Facts, Hp.CellsAt, Nat.reduceAdd, List.cons_append, List.nil_append] at F))
            | ((with_reducible refine Hp.atl_store ?_ ?_); exact rfl; (first | refine Hp.wp_store 0 sh rfl rfl rfl rfl (by kernel_rfl) (Nat.le_of_ble_eq_true rfl) rfl ?_ | refine Hp.wp_store 1 sh rfl rfl rfl rfl (by kernel_rfl) (Nat.le_of_ble_eq_true rfl) rfl ?_ | refine Hp.wp_store 2 sh rfl rfl rfl rfl (by kernel_rfl) (Nat.le_of_ble_eq_true rfl) rfl ?_ | refine Hp.wp_store 3 sh rfl rfl rfl rfl (by kernel_rfl) (Nat.le_of_ble_eq_true rfl) rfl ?_ | refine Hp.wp_store 4 sh rfl rfl rfl rfl (by kernel_rfl) (Nat.le_of_ble_eq_true rfl) rfl ?_ | refine Hp.wp_store 5 sh rfl rfl rfl rfl (by kernel_rfl) (Nat.le_of_ble_eq_true rfl) rfl ?_ | refine Hp.wp_store 6 sh rfl rfl rfl rfl (by kernel_rfl) (Nat.le_of_ble_eq_true rfl) rfl ?_); clear sh; (try clear F); go_simp; intro w1 sh; have F := sh.facts; (try simp only [Hp.Facts, Hp.CellsAt, Nat.reduceAdd, List.cons_append, List.nil_append] at F))
            | fail)
        go_ret2
        exact QryP.BldP.none HX.out sh.below rfl
      | true =>
        rw [hrn] at KR
        obtain ⟨sn, hsn⟩ : ∃ sn : Nat, step = (sn : Int) := ⟨step.toNat, by omega⟩
        subst hsn
        have HX := Lib.hid (show QryP.build (sn : Int) l = (QryP.bldN sn l 0 [], 0) by unfold QryP.build; rw [hrn, if_neg (by simp; omega)]; rfl)
        have s1 : 1 ≤ sn := by omega
        have s2 : sn ≤ 256 := by omega
        have s3 : ¬ sn = 0 := by omega
        clear hrn
        go_enter Try.func13, Try.ntmps13
        have F := sh.facts; (try simp only [Hp.Facts, Hp.CellsAt, Nat.reduceAdd, List.cons_append, List.nil_append] at F)
        go_wp2_with (first
            | ((with_reducible refine Hp.wpl_box sh ?_ ?_); exact rfl; clear sh; (try clear F); go_simp; intro b w1 sh; have F := sh.facts; (try simp only [Hp.Facts, Hp.CellsAt, Nat.reduceAdd, List.cons_append, List.nil_append] at F))
            | ((with_reducible refine Hp.wpl_alloc Try.z_ev sh ?_ ?_); exact rfl; clear sh; (try clear F); go_simp; intro b w1 sh; have F := sh.facts; (try simp only [Hp.Facts, Hp.CellsAt, Nat.reduceAdd, List.cons_append, List.nil_append] at F))
            | ((with_reducible refine Hp.wpl_alloc Try.z_blk sh ?_ ?_); exact rfl; clear sh; (try clear F); go_simp; intro b w1 sh; have F := sh.facts; (try simp only [Hp.Facts, Hp.CellsAt, Nat.reduceAdd, List.cons_append, List.nil_append] at F))
            | ((with_reducible refine Hp.atl_store ?_ ?_); exact rfl; (first | refine Hp.wp_store 0 sh rfl rfl rfl rfl (by kernel_rfl) (Nat.le_of_ble_eq_true rfl) rfl ?_ | refine Hp.wp_store 1 sh rfl rfl rfl rfl (by kernel_rfl) (Nat.le_of_ble_eq_true rfl) rfl ?_ | refine Hp.wp_store 2 sh rfl rfl rfl rfl (by kernel_rfl) (Nat.le_of_ble_eq_true rfl) rfl ?_ | refine Hp.wp_store 3 sh rfl rfl rfl rfl (by kernel_rfl) (Nat.le_of_ble_eq_true rfl) rfl ?_ | refine Hp.wp_store 4 sh rfl rfl rfl rfl (by kernel_rfl) (Nat.le_of_ble_eq_true rfl) rfl ?_ | refine Hp.wp_store 5 sh rfl rfl rfl rfl (by kernel_rfl) (Nat.le_of_ble_eq_true rfl) rfl ?_ | refine Hp.wp_store 6 sh rfl rfl rfl rfl (by kernel_rfl) (Nat.le_of_ble_eq_true rfl) rfl ?_); clear sh; (try clear F); go_simp; intro w1 sh; have F := sh.facts; (try simp only [Hp.Facts, Hp.CellsAt, Nat.reduceAdd, List.cons_append, List.nil_append] at F))
            | fail)
        go_fit (KR.out _ sh.data)
        rintro e w1 ⟨rfl, hb⟩
        replace sh := sh.call hb; clear hb; (try clear F); have F := sh.facts; (try simp only [Hp.Facts, Hp.CellsAt, Nat.reduceAdd, List.cons_append, List.nil_append] at F)
        go_wp2_with (first
            | ((with_reducible refine Hp.wpl_box sh ?_ ?_); exact rfl; clear sh; (try clear F); go_simp; intro b w1 sh; have F := sh.facts; (try simp only [Hp.Facts, Hp.CellsAt, Nat.reduceAdd, List.cons_append, List.nil_append] at F))
            | ((with_reducible refine Hp.wpl_alloc Try.z_ev sh ?_ ?_); exact rfl; clear sh; (try clear F); go_simp; intro b w1 sh; have F := sh.facts; (try simp only [Hp.Facts, Hp.CellsAt, Nat.reduceAdd, List.cons_append, List.nil_append] at F))
            | ((with_reducible refine Hp.wpl_alloc Try.z_blk sh ?_ ?_); exact rfl; clear sh; (try clear F); go_simp; intro b w1 sh; have F := sh.facts; (try simp only [Hp.Facts, Hp.CellsAt, Nat.reduceAdd, List.cons_append, List.nil_append] at F))
            | ((with_reducible refine Hp.atl_store ?_ ?_); exact rfl; (first | refine Hp.wp_store 0 sh rfl rfl rfl rfl (by kernel_rfl) (Nat.le_of_ble_eq_true rfl) rfl ?_ | refine Hp.wp_store 1 sh rfl rfl rfl rfl (by kernel_rfl) (Nat.le_of_ble_eq_true rfl) rfl ?_ | refine Hp.wp_store 2 sh rfl rfl rfl rfl (by kernel_rfl) (Nat.le_of_ble_eq_true rfl) rfl ?_ | refine Hp.wp_store 3 sh rfl rfl rfl rfl (by kernel_rfl) (Nat.le_of_ble_eq_true rfl) rfl ?_ | refine Hp.wp_store 4 sh rfl rfl rfl rfl (by kernel_rfl) (Nat.le_of_ble_eq_true rfl) rfl ?_ | refine Hp.wp_store 5 sh rfl rfl rfl rfl (by kernel_rfl) (Nat.le_of_ble_eq_true rfl) rfl ?_ | refine Hp.wp_store 6 sh rfl rfl rfl rfl (by kernel_rfl) (Nat.le_of_ble_eq_true rfl) rfl ?_); clear sh; (try clear F); go_simp; intro w1 sh; have F := sh.facts; (try simp only [Hp.Facts, Hp.CellsAt, Nat.reduceAdd, List.cons_append, List.nil_append] at F))
            | fail)
        clear c1 c2
        go_loopw [6, 24] (fun v i wr => ∃ (k N : Nat) (R : List Hp.Blk) (bs : List QryP.Bk), i = .int .i64 k ∧ k ≤ n ∧ N ≤ k ∧ (0 < k → 0 < N) ∧ Hid (Hp.RowIs 28 7 v N (bs.flatMap QryP.bc) R ∧ bs.length = N ∧ QryP.bldN sn l 0 [] = QryP.bldN sn (l.drop k) k bs) ∧ Hp.Sh w wr R (fun W => Hp.RdV W s0 (l.flatMap EvP.evc))) (fun _ i _ => n - (intOf i).toNat)
        case atStart => exact ⟨0, 0, [], [], rfl, by omega, by omega, by omega, ⟨Hp.RowIs.nil 28 7, rfl, rfl⟩, sh⟩
        case round =>
          clear sh F
          obtain ⟨k, N, R, bs, rfl, hk, hN, hN0, HK, sh⟩ := hrel
          have HR := Lib.hid HK.out.1
          have HB := Lib.hid HK.out.2
          clear HK
          obtain ⟨sv, cv, rfl, -, -, -⟩ := HR.out.slice
          by_cases hlt : k < n
          · have hlI : (k : Int) < (n : Int) := by omega
            have hkL : k < l.length := by rw [← HN.out]; exact hlt
            obtain ⟨pp, hp, -⟩ := sh.data (Hp.flat_pos EvP.evc_len (by decide) hkL)
            subst hp
            rcases hx : l[k] with ⟨s, t, p, kd, a, b⟩
            have hb := HE0.out _ (List.getElem_mem hkL)
            rw [hx] at hb
            obtain ⟨hs, ht, hp, hkd, ha, hb⟩ := hb
            dsimp only at hs ht hp hkd ha hb
            have HD := Lib.hid (QryP.dropE_get hkL hx)
            have hcs := EvP.ev_cells sh.data hkL hx
            have KO := Lib.hid (fun W => qof (k : Int) s t p kd a b W hs ht hp hkd ha hb)
            have HO := Lib.hid (show QryP.ofE (k : Int) (s, t, p, kd, a, b) = ((k : Int), 1, s, t, t, QryP.partS p, QryP.kindS kd) from rfl)
            rw [HO.out] at KO
            generalize QryP.partS p = pa at KO HO
            generalize QryP.kindS kd = ka at KO HO
            have HV := Lib.hid (show QryP.bcA ((k : Int), 1, s, t, t, pa, ka) = .agg #[.int .i64 ((k : Nat) : Int), .int .i64 1, .int .u64 s, .int .i64 t, .int .i64 t, .int .u64 pa, .int .u64 ka] from rfl)
            rw [HV.out] at KO
            clear hs ht hp hkd ha hb hx HV
            by_cases hz : k % sn = 0
            · have HZ := Lib.hid (QryP.bld_new (x := (s, t, p, kd, a, b)) (r := l.drop (k + 1)) (bs := bs) hz)
              have zt : (k : Int).tmod (sn : Int) = 0 := by rw [Int.tmod_eq_emod_of_nonneg (by omega)]; omega
              clear hz
              have F := sh.facts
              (try simp only [Hp.Facts, Hp.CellsAt, Nat.reduceAdd, List.cons_append, List.nil_append] at F)
              have tok_b8 : True := trivial
              go_wp2_with (first
                  | ((have tok := tok_b8); clear tok tok_b8; (first | (with_reducible refine Hp.wpl_box sh ?_ ?_) | (with_reducible refine Hp.wpl_alloc Try.z_ev sh ?_ ?_) | (with_reducible refine Hp.wpl_alloc Try.z_blk sh ?_ ?_)); exact rfl; clear sh; (try clear F); go_simp; intro b8 w1 sh; have F := sh.facts; (try simp only [Hp.Facts, Hp.CellsAt, Nat.reduceAdd, List.cons_append, List.nil_append] at F))
                  | ((with_reducible refine Hp.wpl_box sh ?_ ?_); exact rfl; clear sh; (try clear F); go_simp; intro b w1 sh; have F := sh.facts; (try simp only [Hp.Facts, Hp.CellsAt, Nat.reduceAdd, List.cons_append, List.nil_append] at F))
                  | ((with_reducible refine Hp.wpl_alloc Try.z_ev sh ?_ ?_); exact rfl; clear sh; (try clear F); go_simp; intro b w1 sh; have F := sh.facts; (try simp only [Hp.Facts, Hp.CellsAt, Nat.reduceAdd, List.cons_append, List.nil_append] at F))
                  | ((with_reducible refine Hp.wpl_alloc Try.z_blk sh ?_ ?_); exact rfl; clear sh; (try clear F); go_simp; intro b w1 sh; have F := sh.facts; (try simp only [Hp.Facts, Hp.CellsAt, Nat.reduceAdd, List.cons_append, List.nil_append] at F))
                  | ((with_reducible refine Hp.atl_store ?_ ?_); exact rfl; (first | refine Hp.wp_store 0 sh rfl rfl rfl rfl (by kernel_rfl) (Nat.le_of_ble_eq_true rfl) rfl ?_ | refine Hp.wp_store 1 sh rfl rfl rfl rfl (by kernel_rfl) (Nat.le_of_ble_eq_true rfl) rfl ?_ | refine Hp.wp_store 2 sh rfl rfl rfl rfl (by kernel_rfl) (Nat.le_of_ble_eq_true rfl) rfl ?_ | refine Hp.wp_store 3 sh rfl rfl rfl rfl (by kernel_rfl) (Nat.le_of_ble_eq_true rfl) rfl ?_ | refine Hp.wp_store 4 sh rfl rfl rfl rfl (by kernel_rfl) (Nat.le_of_ble_eq_true rfl) rfl ?_ | refine Hp.wp_store 5 sh rfl rfl rfl rfl (by kernel_rfl) (Nat.le_of_ble_eq_true rfl) rfl ?_ | refine Hp.wp_store 6 sh rfl rfl rfl rfl (by kernel_rfl) (Nat.le_of_ble_eq_true rfl) rfl ?_); clear sh; (try clear F); go_simp; intro w1 sh; have F := sh.facts; (try simp only [Hp.Facts, Hp.CellsAt, Nat.reduceAdd, List.cons_append, List.nil_append] at F))
                  | fail)
              go_fit (KO.out _)
              rintro e w1 ⟨rfl, hb⟩
              replace sh := sh.call hb; clear hb; (try clear F); have F := sh.facts; (try simp only [Hp.Facts, Hp.CellsAt, Nat.reduceAdd, List.cons_append, List.nil_append] at F)
              go_wp2_with (first | ((with_reducible refine Hp.wpl_alloc Try.z_blk sh ?_ ?_); exact rfl; clear sh; (try clear F); go_simp; intro b9 w1 sh; (have F := sh.facts; (try simp only [Hp.Facts, Hp.CellsAt, Nat.reduceAdd, List.cons_append, List.nil_append] at F))) | ((with_reducible refine Hp.atl_store ?_ ?_); exact rfl; (refine Hp.wp_store 0 sh rfl rfl rfl rfl (by kernel_rfl) (Nat.le_of_ble_eq_true rfl) rfl ?_); clear sh; (try clear F); go_simp; intro w1 sh; (have F := sh.facts; (try simp only [Hp.Facts, Hp.CellsAt, Nat.reduceAdd, List.cons_append, List.nil_append] at F)); replace sh : Hp.Sh w _ (R ++ [_, _]) _ := Hp.Sh.front (A := [_, _]) sh) | ((with_reducible refine Hp.atl_lit ?_ ?_); exact rfl; (refine wp_lits (m := 1) (c := #[.int .i64 ((k : Nat) : Int), .int .i64 1, .int .u64 s, .int .i64 t, .int .i64 t, .int .u64 pa, .int .u64 ka]) (t := 28) (fun w => by kernel_rfl) sh ?_); clear sh; (try clear F); intro bl w1 sh; replace sh := sh.freeze1 (vs := QryP.bc (((k : Nat) : Int), 1, s, t, t, pa, ka)) (fun i v h => by simpa [QryP.bc] using h); (have F := sh.facts; (try simp only [Hp.Facts, Hp.CellsAt, Nat.reduceAdd, List.cons_append, List.nil_append] at F)); go_simp) | ((with_reducible refine Hp.atl_append 36 ?_ ?_); exact rfl; (refine Hp.wp_append (R := R) (H := [_, _]) (news := QryP.bc (((k : Nat) : Int), 1, s, t, t, pa, ka)) Try.i_blk Try.underlying34 (by decide) rfl (by decide) sh HR.out rfl rfl rfl sh.data.1 (fun h => by cases h) (Hp.ones_mem rfl) (by omega) ?_); clear sh; (try clear F); intro v1 R1 w1 sh hr; rw [QryP.bks_app] at hr; have HR1 := Lib.hid hr; clear hr; go_simp) | fail)

              go_roundw
              case rel => exact ⟨k + 1, N + 1, R1, bs ++ [(((k : Nat) : Int), 1, s, t, t, pa, ka)], by go_num, by omega, by omega, by omega, ⟨HR1.out, by simp [HB.out.1], by rw [HB.out.2, HD.out, HZ.out, HO.out]⟩, (Hp.Sh.front (A := R1) (R := [_, _]) sh : Hp.Sh _ _ (_ :: _ :: R1) _).drop2.imp fun _ h => h.2⟩
              case measure => simp [intOf]; omega
            · have hk0 : 0 < k := by rcases Nat.eq_zero_or_pos k with h | h; (subst h; simp at hz); exact h
              obtain ⟨m, hNm⟩ : ∃ m, N = m + 1 := ⟨N - 1, by have := hN0 hk0; omega⟩
              have hmL : m < bs.length := by rw [HB.out.1]; omega
              rcases hy : bs[m] with ⟨a0, a1, a2, a3, a4, a5, a6⟩
              have HY := Lib.hid hy
              clear hy
              have HZ := Lib.hid (QryP.bld_old (x := (s, t, p, kd, a, b)) (r := l.drop (k + 1)) (bs := bs) hz (HB.out.1.trans hNm) HY.out)
              rw [HO.out] at HZ
              obtain ⟨r, zt, hr0⟩ : ∃ r : Nat, (k : Int).tmod (sn : Int) = (r : Int) ∧ ¬ r = 0 := ⟨k % sn, by rw [Int.tmod_eq_emod_of_nonneg (by omega)]; omega, hz⟩
              clear hz
              rcases HR.out.2 with ⟨h1, h2, h3⟩ | ⟨g, cap, cur, h1, h2, h3, h4, h5, h6⟩
              · omega
              · simp only [Value.slice.injEq, true_and] at h1
                obtain ⟨rfl, rfl⟩ := h1
                subst h2
                have hfit : m * 7 + 7 ≤ cur.size := by omega
                have hmN : m < N := by omega
                have hmI : (m : Int) < (N : Int) := by omega
                have z2 : IntKind.i64.wrap ((N : Int) - 1) = (m : Int) := by rw [IntWalk.i64_in _ (by omega)]; omega
                have KJ := Lib.hid (fun W => qjoin a0 a1 a2 a3 a4 a5 a6 (k : Int) 1 s t t pa ka W)
                generalize QryP.join (a0, a1, a2, a3, a4, a5, a6) ((k : Int), 1, s, t, t, pa, ka) = jb at KJ HZ
                have HRP := Lib.hid (QryP.row_put jb HR.out HB.out.1 hNm)
                have HNM := Lib.hid hNm
                clear h3 h4 h5 h6 hNm
                have F := sh.facts
                (try simp only [Hp.Facts, Hp.CellsAt, Nat.reduceAdd, List.cons_append, List.nil_append] at F)
                have tok_b8 : True := trivial
                go_wp2_with (first
                    | ((have tok := tok_b8); clear tok tok_b8; (first | (with_reducible refine Hp.wpl_box sh ?_ ?_) | (with_reducible refine Hp.wpl_alloc Try.z_ev sh ?_ ?_) | (with_reducible refine Hp.wpl_alloc Try.z_blk sh ?_ ?_)); exact rfl; clear sh; (try clear F); go_simp; intro b8 w1 sh; have F := sh.facts; (try simp only [Hp.Facts, Hp.CellsAt, Nat.reduceAdd, List.cons_append, List.nil_append] at F))
                    | ((with_reducible refine Hp.wpl_box sh ?_ ?_); exact rfl; clear sh; (try clear F); go_simp; intro b w1 sh; have F := sh.facts; (try simp only [Hp.Facts, Hp.CellsAt, Nat.reduceAdd, List.cons_append, List.nil_append] at F))
                    | ((with_reducible refine Hp.wpl_alloc Try.z_ev sh ?_ ?_); exact rfl; clear sh; (try clear F); go_simp; intro b w1 sh; have F := sh.facts; (try simp only [Hp.Facts, Hp.CellsAt, Nat.reduceAdd, List.cons_append, List.nil_append] at F))
                    | ((with_reducible refine Hp.wpl_alloc Try.z_blk sh ?_ ?_); exact rfl; clear sh; (try clear F); go_simp; intro b w1 sh; have F := sh.facts; (try simp only [Hp.Facts, Hp.CellsAt, Nat.reduceAdd, List.cons_append, List.nil_append] at F))
                    | ((with_reducible refine Hp.atl_store ?_ ?_); exact rfl; (first | refine Hp.wp_store 0 sh rfl rfl rfl rfl (by kernel_rfl) (Nat.le_of_ble_eq_true rfl) rfl ?_ | refine Hp.wp_store 1 sh rfl rfl rfl rfl (by kernel_rfl) (Nat.le_of_ble_eq_true rfl) rfl ?_ | refine Hp.wp_store 2 sh rfl rfl rfl rfl (by kernel_rfl) (Nat.le_of_ble_eq_true rfl) rfl ?_ | refine Hp.wp_store 3 sh rfl rfl rfl rfl (by kernel_rfl) (Nat.le_of_ble_eq_true rfl) rfl ?_ | refine Hp.wp_store 4 sh rfl rfl rfl rfl (by kernel_rfl) (Nat.le_of_ble_eq_true rfl) rfl ?_ | refine Hp.wp_store 5 sh rfl rfl rfl rfl (by kernel_rfl) (Nat.le_of_ble_eq_true rfl) rfl ?_ | refine Hp.wp_store 6 sh rfl rfl rfl rfl (by kernel_rfl) (Nat.le_of_ble_eq_true rfl) rfl ?_); clear sh; (try clear F); go_simp; intro w1 sh; have F := sh.facts; (try simp only [Hp.Facts, Hp.CellsAt, Nat.reduceAdd, List.cons_append, List.nil_append] at F))
                    | fail)
                go_fit (KO.out _)
                rintro e w1 ⟨rfl, hb⟩
                replace sh := sh.call hb; clear hb; (try clear F); have F := sh.facts; (try simp only [Hp.Facts, Hp.CellsAt, Nat.reduceAdd, List.cons_append, List.nil_append] at F)
                go_wp2_with (first | ((with_reducible refine Hp.wpl_alloc Try.z_blk sh ?_ ?_); exact rfl; clear sh; (try clear F); go_simp; intro b9 w1 sh; (have F := sh.facts; (try simp only [Hp.Facts, Hp.CellsAt, Nat.reduceAdd, List.cons_append, List.nil_append] at F))) | ((with_reducible refine Hp.atl_store ?_ ?_); exact rfl; (refine Hp.wp_store 0 sh rfl rfl rfl rfl (by kernel_rfl) (Nat.le_of_ble_eq_true rfl) rfl ?_); clear sh; (try clear F); go_simp; intro w1 sh; (have F := sh.facts; (try simp only [Hp.Facts, Hp.CellsAt, Nat.reduceAdd, List.cons_append, List.nil_append] at F)); replace sh : Hp.Sh w _ [_, _, _] _ := Hp.Sh.front (A := [_, _]) (R := [_]) sh) | fail)
                refine Hp.region_soft (by kernel_rfl) sh (fun _ q => Hp.Sh.drop1 q) ?_; clear sh; (try clear F)
                (try simp only [])
                (refine Hp.soft_take (i := 0) (oi := ⟨some 43, Op.move (Operand.tmp 6), _, _, _, none⟩) _ rfl (by kernel_rfl) (by kernel_rfl) (by kernel_rfl) (fun _ _ _ h => h) (fun _ q => Hp.Sh.drop1 q) (by rfl) (fun W hW => by go_simp; (try with_reducible rfl)) ?_; (try simp only [Act.put, List.setIfInBounds_toArray, List.set_cons_zero, List.set_cons_succ]))
                (refine Hp.soft_take (i := 1) (oi := ⟨some 44, Op.move (Operand.tmp 10), _, _, _, none⟩) _ rfl (by kernel_rfl) (by kernel_rfl) (by kernel_rfl) (fun _ _ _ h => h) (fun _ q => Hp.Sh.drop1 q) (by rfl) (fun W hW => by go_simp; (try with_reducible rfl)) ?_; (try simp only [Act.put, List.setIfInBounds_toArray, List.set_cons_zero, List.set_cons_succ]))
                (refine Hp.soft_take (i := 2) (oi := ⟨some 45, Op.move (Operand.tmp 6), _, _, _, none⟩) _ rfl (by kernel_rfl) (by kernel_rfl) (by kernel_rfl) (fun _ _ _ h => h) (fun _ q => Hp.Sh.drop1 q) (by rfl) (fun W hW => by go_simp; (try with_reducible rfl)) ?_; (try simp only [Act.put, List.setIfInBounds_toArray, List.set_cons_zero, List.set_cons_succ]))
                (refine Hp.soft_take (i := 3) (oi := ⟨some 46, Op.move (Operand.tmp 10), _, _, _, none⟩) _ rfl (by kernel_rfl) (by kernel_rfl) (by kernel_rfl) (fun _ _ _ h => h) (fun _ q => Hp.Sh.drop1 q) (by rfl) (fun W hW => by go_simp; (try with_reducible rfl)) ?_; (try simp only [Act.put, List.setIfInBounds_toArray, List.set_cons_zero, List.set_cons_succ]))
                (refine Hp.soft_take (i := 4) (oi := ⟨some 47, Op.indexAddr 34 (Operand.tmp 45) (Operand.tmp 46), _, _, _, none⟩) _ rfl (by kernel_rfl) (by kernel_rfl) (by kernel_rfl) (fun _ _ _ h => h) (fun _ q => Hp.Sh.drop1 q) (by rfl) (fun W hW => by go_simp; (try with_reducible rfl)) ?_; (try simp only [Act.put, List.setIfInBounds_toArray, List.set_cons_zero, List.set_cons_succ]))
                (refine Hp.soft_take (i := 6) (oi := ⟨some 49, Op.load 28 (Operand.tmp 9), _, _, _, none⟩) _ rfl (by kernel_rfl) (by kernel_rfl) (by kernel_rfl) (fun _ _ _ h => h) (fun _ q => Hp.Sh.drop1 q) (by rfl) (fun W hW => by (have F := Hp.Sh.facts hW); (have hd := Hp.Sh.data hW); (try simp only [Hp.Facts, Hp.CellsAt, Nat.reduceAdd, List.cons_append, List.nil_append] at F); skip; go_simp; (try with_reducible rfl)) ?_; (try simp only [Act.put, List.setIfInBounds_toArray, List.set_cons_zero, List.set_cons_succ]))
                refine Hp.soft_make (i := 5) (o := ⟨some 48, Op.load 28 (Operand.tmp 47), _, _, _, none⟩) (by kernel_rfl) rfl (by rfl) (fun w1 sh K hK => ?_); (try clear F); (try have F := Hp.Sh.facts sh); (try simp only [Hp.Facts, Hp.CellsAt, Nat.reduceAdd, List.cons_append, List.nil_append] at F); (have hcs2 := QryP.bk_cells (Hp.Sh.cells (R := [_]) sh HR.out) hmL HY.out; simp only [Hp.add_head] at hcs2; obtain ⟨e0, e1, e2, e3, e4, e5, e6⟩ := hcs2; go_simp); refine hK _ _ _ _ _ _ (fun _ q => Hp.Sh.drop1 q) (fun _ q => q) sh ?_; clear hK K; clear sh; (try clear F); (try simp only [Act.put, List.setIfInBounds_toArray, List.set_cons_zero, List.set_cons_succ])
                (refine Hp.soft_call (i := 7) (oi := ⟨some 50, Op.call { callee := Callee.value (Operand.func 14), args := #[Operand.tmp 48, Operand.tmp 49], argTypes := #[28, 28] }, _, _, _, none⟩) _ _ _ rfl (by kernel_rfl) (by kernel_rfl) (by kernel_rfl) (fun _ _ _ h => h) (fun _ q => Hp.Sh.drop1 q) (by rfl) (fun W hW => by go_simp) (fun W hW => (KJ.out W)) ?_; (try simp only [Act.put, List.setIfInBounds_toArray, List.set_cons_zero, List.set_cons_succ]))
                (refine Hp.soft_take (i := 8) (oi := ⟨some 51, Op.indexAddr 34 (Operand.tmp 43) (Operand.tmp 44), _, _, _, none⟩) _ rfl (by kernel_rfl) (by kernel_rfl) (by kernel_rfl) (fun _ _ _ h => h) (fun _ q => Hp.Sh.drop1 q) (by rfl) (fun W hW => by go_simp; (try with_reducible rfl)) ?_; (try simp only [Act.put, List.setIfInBounds_toArray, List.set_cons_zero, List.set_cons_succ]))
                refine Hp.soft_make (i := 9) (o := ⟨none, Op.store 28 (Operand.tmp 51) (Operand.tmp 50), _, _, _, none⟩) (by kernel_rfl) rfl (by rfl) (fun w1 sh K hK => ?_); (try clear F); (try have F := Hp.Sh.facts sh); (try simp only [Hp.Facts, Hp.CellsAt, Nat.reduceAdd, List.cons_append, List.nil_append] at F); (refine Hp.wp_store 0 sh rfl rfl rfl rfl (by kernel_rfl) (by first | exact hfit | (simp; omega)) rfl ?_; clear sh; go_simp; intro w1 sh); refine hK _ _ _ _ _ _ (fun _ q => Hp.Sh.drop1 q) (fun _ q => q) sh ?_; clear hK K; clear sh; (try clear F); (try simp only [Act.put, List.setIfInBounds_toArray, List.set_cons_zero, List.set_cons_succ])
                refine Hp.soft_done (by kernel_rfl) (fun w1 sh => ?_) _; (try clear F); (try have F := Hp.Sh.facts sh); (try simp only [Hp.Facts, Hp.CellsAt, Nat.reduceAdd, List.cons_append, List.nil_append] at F)
                go_wp2_with (first
                    | ((with_reducible refine Hp.wpl_box sh ?_ ?_); exact rfl; clear sh; (try clear F); go_simp; intro b w1 sh; have F := sh.facts; (try simp only [Hp.Facts, Hp.CellsAt, Nat.reduceAdd, List.cons_append, List.nil_append] at F))
                    | ((with_reducible refine Hp.wpl_alloc Try.z_ev sh ?_ ?_); exact rfl; clear sh; (try clear F); go_simp; intro b w1 sh; have F := sh.facts; (try simp only [Hp.Facts, Hp.CellsAt, Nat.reduceAdd, List.cons_append, List.nil_append] at F))
                    | ((with_reducible refine Hp.wpl_alloc Try.z_blk sh ?_ ?_); exact rfl; clear sh; (try clear F); go_simp; intro b w1 sh; have F := sh.facts; (try simp only [Hp.Facts, Hp.CellsAt, Nat.reduceAdd, List.cons_append, List.nil_append] at F))
                    | ((with_reducible refine Hp.atl_store ?_ ?_); exact rfl; (first | refine Hp.wp_store 0 sh rfl rfl rfl rfl (by kernel_rfl) (Nat.le_of_ble_eq_true rfl) rfl ?_ | refine Hp.wp_store 1 sh rfl rfl rfl rfl (by kernel_rfl) (Nat.le_of_ble_eq_true rfl) rfl ?_ | refine Hp.wp_store 2 sh rfl rfl rfl rfl (by kernel_rfl) (Nat.le_of_ble_eq_true rfl) rfl ?_ | refine Hp.wp_store 3 sh rfl rfl rfl rfl (by kernel_rfl) (Nat.le_of_ble_eq_true rfl) rfl ?_ | refine Hp.wp_store 4 sh rfl rfl rfl rfl (by kernel_rfl) (Nat.le_of_ble_eq_true rfl) rfl ?_ | refine Hp.wp_store 5 sh rfl rfl rfl rfl (by kernel_rfl) (Nat.le_of_ble_eq_true rfl) rfl ?_ | refine Hp.wp_store 6 sh rfl rfl rfl rfl (by kernel_rfl) (Nat.le_of_ble_eq_true rfl) rfl ?_); clear sh; (try clear F); go_simp; intro w1 sh; have F := sh.facts; (try simp only [Hp.Facts, Hp.CellsAt, Nat.reduceAdd, List.cons_append, List.nil_append] at F))
                    | fail)
                go_roundw
                case rel => exact ⟨k + 1, N, [(g, Hp.putCells cur (m * 7) (QryP.bc jb), 28)], bs.take m ++ [jb], by go_num, by omega, by omega, by omega, ⟨HRP.out, by simp [HNM.out]; have := HB.out.1; have := HNM.out; omega, by rw [HB.out.2, HD.out, HZ.out]⟩, (Hp.Sh.front (A := [_]) (R := [_, _]) sh : Hp.Sh w _ [_, _, _] _).drop2⟩
                case measure => simp [intOf]; omega
          · have HE := Lib.hid (show QryP.bldN sn l 0 [] = bs by rw [HB.out.2, List.drop_eq_nil_of_le (by have := HN.out; omega)]; rfl)
            have hlI : ¬ (k : Int) < (n : Int) := by omega
            have F : True := trivial
            go_wp2_with (first
                | ((with_reducible refine Hp.wpl_box sh ?_ ?_); exact rfl; clear sh; (try clear F); go_simp; intro b w1 sh; have F := sh.facts; (try simp only [Hp.Facts, Hp.CellsAt, Nat.reduceAdd, List.cons_append, List.nil_append] at F))
                | ((with_reducible refine Hp.wpl_alloc Try.z_ev sh ?_ ?_); exact rfl; clear sh; (try clear F); go_simp; intro b w1 sh; have F := sh.facts; (try simp only [Hp.Facts, Hp.CellsAt, Nat.reduceAdd, List.cons_append, List.nil_append] at F))
                | ((with_reducible refine Hp.wpl_alloc Try.z_blk sh ?_ ?_); exact rfl; clear sh; (try clear F); go_simp; intro b w1 sh; have F := sh.facts; (try simp only [Hp.Facts, Hp.CellsAt, Nat.reduceAdd, List.cons_append, List.nil_append] at F))
                | ((with_reducible refine Hp.atl_store ?_ ?_); exact rfl; (first | refine Hp.wp_store 0 sh rfl rfl rfl rfl (by kernel_rfl) (Nat.le_of_ble_eq_true rfl) rfl ?_ | refine Hp.wp_store 1 sh rfl rfl rfl rfl (by kernel_rfl) (Nat.le_of_ble_eq_true rfl) rfl ?_ | refine Hp.wp_store 2 sh rfl rfl rfl rfl (by kernel_rfl) (Nat.le_of_ble_eq_true rfl) rfl ?_ | refine Hp.wp_store 3 sh rfl rfl rfl rfl (by kernel_rfl) (Nat.le_of_ble_eq_true rfl) rfl ?_ | refine Hp.wp_store 4 sh rfl rfl rfl rfl (by kernel_rfl) (Nat.le_of_ble_eq_true rfl) rfl ?_ | refine Hp.wp_store 5 sh rfl rfl rfl rfl (by kernel_rfl) (Nat.le_of_ble_eq_true rfl) rfl ?_ | refine Hp.wp_store 6 sh rfl rfl rfl rfl (by kernel_rfl) (Nat.le_of_ble_eq_true rfl) rfl ?_); clear sh; (try clear F); go_simp; intro w1 sh; have F := sh.facts; (try simp only [Hp.Facts, Hp.CellsAt, Nat.reduceAdd, List.cons_append, List.nil_append] at F))
                | fail)
            go_ret2
            exact QryP.BldP.mk (by rw [HX.out, HE.out]) HB.out.1 (by rw [List.append_nil]; exact sh : Hp.Sh _ _ (R ++ []) _) HR.out rfl

end Go.Proofs.Ytedcnoajadnhnaa