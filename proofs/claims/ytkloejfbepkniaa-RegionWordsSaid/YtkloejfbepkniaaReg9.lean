/-
  The walks of short and of RegionDoes.
-/
import Derived.Test.YtkloejfbepkniaaReg8
import Derived.Test.YtkloejfbepkniaaRowC
namespace Go.Proofs.Ytkloejfbepkniaa
open Go.RowKit
set_option linter.unusedVariables false
set_option linter.unusedSimpArgs false

namespace RegP
abbrev Stp := Int × Int × Int × Int × Int × Int × (Option Addr × Nat × Nat) × Int × Int × (Option Addr × List Int × Nat)
def stc (s : Stp) : List Value := [.int .i64 s.1, .int .i64 s.2.1, .int .i64 s.2.2.1, .int .i64 s.2.2.2.1, .int .i64 s.2.2.2.2.1, .int .i64 s.2.2.2.2.2.1, .slice s.2.2.2.2.2.2.1.1 s.2.2.2.2.2.2.1.2.1 s.2.2.2.2.2.2.1.2.2, .int .i64 s.2.2.2.2.2.2.2.1, .int .i64 s.2.2.2.2.2.2.2.2.1, .slice s.2.2.2.2.2.2.2.2.2.1 s.2.2.2.2.2.2.2.2.2.2.1.length s.2.2.2.2.2.2.2.2.2.2.2]
theorem stc_len (s : Stp) : (stc s).length = 10 := rfl
def I64 (x : Int) : Prop := -9223372036854775808 ≤ x ∧ x ≤ 9223372036854775807
/-- What is known of a step's numbers. -/
def StB (s : Stp) : Prop := I64 s.1 ∧ I64 s.2.1 ∧ I64 s.2.2.1 ∧ I64 s.2.2.2.1 ∧ I64 s.2.2.2.2.1 ∧ s.2.2.2.2.2.2.2.2.2.2.1.length ≤ 9223372036854775807
/-- Each step's words lie where it says. -/
def StOk (S : List Stp) (W : World) : Prop := ∀ s ∈ S, Hp.RdV W s.2.2.2.2.2.2.2.2.2.1 (ints s.2.2.2.2.2.2.2.2.2.2.1)
theorem StOk.rob {S : List Stp} {W : World} (h : StOk S W) : Hp.Rob (fun _ => False) W (StOk S) := fun W' ho s hs => (h s hs).below ho (fun _ _ q => q)
theorem st_cells {W : World} {p : Addr} {S : List Stp} (hR : Hp.RdV W (some p) (S.flatMap stc)) {k : Nat} (h : k < S.length) :
    let s := S[k]
    W.cell? (p.add (k * 10)) = some (.int .i64 s.1) ∧ W.cell? ⟨(p.add (k * 10)).block, (p.add (k * 10)).off + 1, none⟩ = some (.int .i64 s.2.1) ∧ W.cell? ⟨(p.add (k * 10)).block, (p.add (k * 10)).off + 2, none⟩ = some (.int .i64 s.2.2.1) ∧ W.cell? ⟨(p.add (k * 10)).block, (p.add (k * 10)).off + 3, none⟩ = some (.int .i64 s.2.2.2.1) ∧
      W.cell? ⟨(p.add (k * 10)).block, (p.add (k * 10)).off + 4, none⟩ = some (.int .i64 s.2.2.2.2.1) ∧ W.cell? ⟨(p.add (k * 10)).block, (p.add (k * 10)).off + 5, none⟩ = some (.int .i64 s.2.2.2.2.2.1) ∧ W.cell? ⟨(p.add (k * 10)).block, (p.add (k * 10)).off + 6, none⟩ = some (.slice s.2.2.2.2.2.2.1.1 s.2.2.2.2.2.2.1.2.1 s.2.2.2.2.2.2.1.2.2) ∧
      W.cell? ⟨(p.add (k * 10)).block, (p.add (k * 10)).off + 7, none⟩ = some (.int .i64 s.2.2.2.2.2.2.2.1) ∧ W.cell? ⟨(p.add (k * 10)).block, (p.add (k * 10)).off + 8, none⟩ = some (.int .i64 s.2.2.2.2.2.2.2.2.1) ∧ W.cell? ⟨(p.add (k * 10)).block, (p.add (k * 10)).off + 9, none⟩ = some (.slice s.2.2.2.2.2.2.2.2.2.1 s.2.2.2.2.2.2.2.2.2.2.1.length s.2.2.2.2.2.2.2.2.2.2.2) := by
  have g := fun j hj v hv => Hp.row_cellS stc_len hR h j hj (v := v) hv
  exact ⟨Hp.row_cell0 stc_len hR h rfl, g 1 (by decide) _ rfl, g 2 (by decide) _ rfl, g 3 (by decide) _ rfl, g 4 (by decide) _ rfl, g 5 (by decide) _ rfl, g 6 (by decide) _ rfl, g 7 (by decide) _ rfl, g 8 (by decide) _ rfl, g 9 (by decide) _ rfl⟩
def ShortP (sn : Nat) (w : World) (e : Ending) (w' : World) : Prop := ∃ b : Bool, e = .returned (.bool b) ∧ (b = true → sn ≤ 100) ∧ Below w.heap.size w w'
theorem min1000 (n : Nat) : (if (1000 : Int) < n then (1000 : Int) else n) = ((min n 1000 : Nat) : Int) := by split <;> omega
def stepS (n : Nat) (ws : List Int) (s : Stp) : List Int := stepW n ws s.1 s.2.1 s.2.2.1 s.2.2.2.1 s.2.2.2.2.1 s.2.2.2.2.2.2.2.2.2.2.1
theorem set_len {n : Nat} {ws : List Int} {b z a v : Int} : (setW n ws b z a v).length = ws.length := by unfold setW; split <;> simp
theorem lay_len {n : Nat} {ws l : List Int} {b z a : Int} (h : ws.length = n) : (layW n ws b z a l).length = n := by
  unfold layW
  split
  · rename_i hp
    obtain ⟨b', z', a', k', rfl, rfl, rfl, h4, h5, h6, h7⟩ := pc_zero hp
    rw [splice_len (by omega)]; exact h
  · exact h
theorem clear_len {n : Nat} {ws : List Int} {b z : Int} (h : ws.length = n) : (clearW n ws b z).length = n := by
  unfold clearW
  split
  · rename_i hp
    obtain ⟨b', z', rfl, rfl, h3, h4⟩ := oc_nat hp
    rw [splice_len (by simp; omega)]; exact h
  · exact h
theorem step_len {n : Nat} {ws : List Int} {s : Stp} (h : ws.length = n) : (stepS n ws s).length = n := by
  unfold stepS stepW
  split
  · rw [set_len]; exact h
  · split
    · exact lay_len h
    · split
      · exact clear_len h
      · exact h
theorem view_all {n : Nat} {ws : List Int} (h : ws.length = n) (h1 : 1 ≤ n) : viewW n ws 0 n = ws := by
  unfold viewW
  rw [if_pos (show oc n 0 n = true from decide_eq_true ⟨by omega, by omega, by omega⟩)]
  simp [← h]
end RegP

theorem sameT2 (s r : Option Addr) (zs : List Int) (n c d : Nat) (w : World) (hz : zs.length = n) (hs : Hp.RdV w s (ints zs)) (hr : Hp.RdV w r (ints zs)) (hn : n ≤ 9223372036854775807) :
    Calls Try.prog 13 #[.slice s zs.length c, .slice r n d] w fun e w' => e = .returned (.bool true) ∧ Below w.heap.size w w' := by
  subst hz
  exact sameT s r zs c d w hs hr hn

set_option maxHeartbeats 4000000 in set_option maxRecDepth 100000 in
theorem rshort (ss : Option Addr) (S : List RegP.Stp) (sn sc : Nat) (w : World) (hl0 : sn = S.length) (hsn : sn ≤ 9223372036854775807) (hB0 : ∀ s ∈ S, RegP.StB s) (hR : Hp.RdV w ss (S.flatMap RegP.stc)) :
    Calls Try.prog 7 #[.slice ss sn sc] w fun e w' => RegP.ShortP sn w e w' := by
  have sh := Hp.Sh.start (RdV_rob hR)
  have hl := Lib.hid hl0
  have HB := Lib.hid hB0
  clear hR hl0 hB0
  go_enter Try.func7, Try.ntmps7
  go_wp2_with (first
      | ((with_reducible refine Hp.wpl_box sh ?_ ?_); exact rfl; clear sh; (try clear F); go_simp; intro b w1 sh; have F := sh.facts; (try simp only [Hp.Facts, Hp.CellsAt, Nat.reduceAdd, List.cons_append, List.nil_append] at F))
      | ((with_reducible refine Hp.atl_store ?_ ?_); exact rfl; (first | refine Hp.wp_store 0 sh rfl rfl rfl rfl (by kernel_rfl) (Nat.le_of_ble_eq_true rfl) rfl ?_ | refine Hp.wp_store 1 sh rfl rfl rfl rfl (by kernel_rfl) (Nat.le_of_ble_eq_true rfl) rfl ?_ | refine Hp.wp_store 2 sh rfl rfl rfl rfl (by kernel_rfl) (Nat.le_of_ble_eq_true rfl) rfl ?_ | refine Hp.wp_store 3 sh rfl rfl rfl rfl (by kernel_rfl) (Nat.le_of_ble_eq_true rfl) rfl ?_ | refine Hp.wp_store 4 sh rfl rfl rfl rfl (by kernel_rfl) (Nat.le_of_ble_eq_true rfl) rfl ?_ | refine Hp.wp_store 5 sh rfl rfl rfl rfl (by kernel_rfl) (Nat.le_of_ble_eq_true rfl) rfl ?_ | refine Hp.wp_store 6 sh rfl rfl rfl rfl (by kernel_rfl) (Nat.le_of_ble_eq_true rfl) rfl ?_); clear sh; (try clear F); go_simp; intro w1 sh; have F := sh.facts; (try simp only [Hp.Facts, Hp.CellsAt, Nat.reduceAdd, List.cons_append, List.nil_append] at F))
      | fail)
  go_loopw [3, 4] (fun v i wr => ∃ k n : Nat, v = .int .i64 n ∧ i = .int .i64 k ∧ k ≤ sn ∧ (sn ≤ 100 ∨ k = 0) ∧ n ≤ k * 1000 ∧ Hp.Sh w wr [] (fun W => Hp.RdV W ss (S.flatMap RegP.stc))) (fun _ i _ => sn - (intOf i).toNat)
  case atStart => exact ⟨0, 0, rfl, rfl, by omega, by omega, by omega, sh⟩
  case round =>
    clear sh
    obtain ⟨k, n, rfl, rfl, hk, h20, hn2, sh⟩ := hrel
    by_cases hlt : k < sn ∧ sn ≤ 100
    · obtain ⟨hlt, hp20⟩ := hlt
      have hlI : (k : Int) < (sn : Int) := by omega
      have hpI : (sn : Int) ≤ 100 := by omega
      have g1 : k < S.length := by rw [← hl.out]; exact hlt
      obtain ⟨p, hp, -⟩ := sh.data (Hp.flat_pos RegP.stc_len (by decide) g1)
      subst hp
      have c1 := (RegP.st_cells sh.data g1).2.2.2.2.2.2.2.2.2
      have hr := (HB.out _ (List.getElem_mem g1)).2.2.2.2.2
      generalize S[k] = s at c1 hr
      obtain ⟨_, _, _, _, _, _, _, _, _, ⟨ls, l, lc⟩⟩ := s
      dsimp only at c1 hr
      clear g1
      generalize l.length = ln at c1 hr
      have hmn := RegP.min1000 ln
      have hmz := Nat.min_le_right ln 1000
      generalize min ln 1000 = d at hmn hmz
      go_wp2_with (first
          | ((with_reducible refine Hp.wpl_box sh ?_ ?_); exact rfl; clear sh; (try clear F); go_simp; intro b w1 sh; have F := sh.facts; (try simp only [Hp.Facts, Hp.CellsAt, Nat.reduceAdd, List.cons_append, List.nil_append] at F))
          | ((with_reducible refine Hp.atl_store ?_ ?_); exact rfl; (first | refine Hp.wp_store 0 sh rfl rfl rfl rfl (by kernel_rfl) (Nat.le_of_ble_eq_true rfl) rfl ?_ | refine Hp.wp_store 1 sh rfl rfl rfl rfl (by kernel_rfl) (Nat.le_of_ble_eq_true rfl) rfl ?_ | refine Hp.wp_store 2 sh rfl rfl rfl rfl (by kernel_rfl) (Nat.le_of_ble_eq_true rfl) rfl ?_ | refine Hp.wp_store 3 sh rfl rfl rfl rfl (by kernel_rfl) (Nat.le_of_ble_eq_true rfl) rfl ?_ | refine Hp.wp_store 4 sh rfl rfl rfl rfl (by kernel_rfl) (Nat.le_of_ble_eq_true rfl) rfl ?_ | refine Hp.wp_store 5 sh rfl rfl rfl rfl (by kernel_rfl) (Nat.le_of_ble_eq_true rfl) rfl ?_ | refine Hp.wp_store 6 sh rfl rfl rfl rfl (by kernel_rfl) (Nat.le_of_ble_eq_true rfl) rfl ?_); clear sh; (try clear F); go_simp; intro w1 sh; have F := sh.facts; (try simp only [Hp.Facts, Hp.CellsAt, Nat.reduceAdd, List.cons_append, List.nil_append] at F))
          | fail)
      go_roundw
      case rel => exact ⟨k + 1, n + d, by go_num, by go_num, by omega, by omega, by omega, sh⟩
      case measure => simp [intOf]; omega
    · clear hl HB
      by_cases hp20 : sn ≤ 100
      · have hkk : (sn : Int) ≤ (k : Int) := by omega
        by_cases h3 : n ≤ 3000
        · go_wp2_with (first
              | ((with_reducible refine Hp.wpl_box sh ?_ ?_); exact rfl; clear sh; (try clear F); go_simp; intro b w1 sh; have F := sh.facts; (try simp only [Hp.Facts, Hp.CellsAt, Nat.reduceAdd, List.cons_append, List.nil_append] at F))
              | ((with_reducible refine Hp.atl_store ?_ ?_); exact rfl; (first | refine Hp.wp_store 0 sh rfl rfl rfl rfl (by kernel_rfl) (Nat.le_of_ble_eq_true rfl) rfl ?_ | refine Hp.wp_store 1 sh rfl rfl rfl rfl (by kernel_rfl) (Nat.le_of_ble_eq_true rfl) rfl ?_ | refine Hp.wp_store 2 sh rfl rfl rfl rfl (by kernel_rfl) (Nat.le_of_ble_eq_true rfl) rfl ?_ | refine Hp.wp_store 3 sh rfl rfl rfl rfl (by kernel_rfl) (Nat.le_of_ble_eq_true rfl) rfl ?_ | refine Hp.wp_store 4 sh rfl rfl rfl rfl (by kernel_rfl) (Nat.le_of_ble_eq_true rfl) rfl ?_ | refine Hp.wp_store 5 sh rfl rfl rfl rfl (by kernel_rfl) (Nat.le_of_ble_eq_true rfl) rfl ?_ | refine Hp.wp_store 6 sh rfl rfl rfl rfl (by kernel_rfl) (Nat.le_of_ble_eq_true rfl) rfl ?_); clear sh; (try clear F); go_simp; intro w1 sh; have F := sh.facts; (try simp only [Hp.Facts, Hp.CellsAt, Nat.reduceAdd, List.cons_append, List.nil_append] at F))
              | fail)
          go_ret
          exact ⟨true, ret_bool (by first | (simp; done) | (simp; omega)), fun _ => hp20, sh.below⟩
        · go_wp2_with (first
              | ((with_reducible refine Hp.wpl_box sh ?_ ?_); exact rfl; clear sh; (try clear F); go_simp; intro b w1 sh; have F := sh.facts; (try simp only [Hp.Facts, Hp.CellsAt, Nat.reduceAdd, List.cons_append, List.nil_append] at F))
              | ((with_reducible refine Hp.atl_store ?_ ?_); exact rfl; (first | refine Hp.wp_store 0 sh rfl rfl rfl rfl (by kernel_rfl) (Nat.le_of_ble_eq_true rfl) rfl ?_ | refine Hp.wp_store 1 sh rfl rfl rfl rfl (by kernel_rfl) (Nat.le_of_ble_eq_true rfl) rfl ?_ | refine Hp.wp_store 2 sh rfl rfl rfl rfl (by kernel_rfl) (Nat.le_of_ble_eq_true rfl) rfl ?_ | refine Hp.wp_store 3 sh rfl rfl rfl rfl (by kernel_rfl) (Nat.le_of_ble_eq_true rfl) rfl ?_ | refine Hp.wp_store 4 sh rfl rfl rfl rfl (by kernel_rfl) (Nat.le_of_ble_eq_true rfl) rfl ?_ | refine Hp.wp_store 5 sh rfl rfl rfl rfl (by kernel_rfl) (Nat.le_of_ble_eq_true rfl) rfl ?_ | refine Hp.wp_store 6 sh rfl rfl rfl rfl (by kernel_rfl) (Nat.le_of_ble_eq_true rfl) rfl ?_); clear sh; (try clear F); go_simp; intro w1 sh; have F := sh.facts; (try simp only [Hp.Facts, Hp.CellsAt, Nat.reduceAdd, List.cons_append, List.nil_append] at F))
              | fail)
          go_ret
          exact ⟨false, ret_bool (by first | (simp; done) | (simp; omega)), (fun h => by cases h), sh.below⟩
      · obtain rfl : k = 0 := by omega
        have hp21 : ¬ ((sn : Int) ≤ 100) := by omega
        go_wp2_with (first
            | ((with_reducible refine Hp.wpl_box sh ?_ ?_); exact rfl; clear sh; (try clear F); go_simp; intro b w1 sh; have F := sh.facts; (try simp only [Hp.Facts, Hp.CellsAt, Nat.reduceAdd, List.cons_append, List.nil_append] at F))
            | ((with_reducible refine Hp.atl_store ?_ ?_); exact rfl; (first | refine Hp.wp_store 0 sh rfl rfl rfl rfl (by kernel_rfl) (Nat.le_of_ble_eq_true rfl) rfl ?_ | refine Hp.wp_store 1 sh rfl rfl rfl rfl (by kernel_rfl) (Nat.le_of_ble_eq_true rfl) rfl ?_ | refine Hp.wp_store 2 sh rfl rfl rfl rfl (by kernel_rfl) (Nat.le_of_ble_eq_true rfl) rfl ?_ | refine Hp.wp_store 3 sh rfl rfl rfl rfl (by kernel_rfl) (Nat.le_of_ble_eq_true rfl) rfl ?_ | refine Hp.wp_store 4 sh rfl rfl rfl rfl (by kernel_rfl) (Nat.le_of_ble_eq_true rfl) rfl ?_ | refine Hp.wp_store 5 sh rfl rfl rfl rfl (by kernel_rfl) (Nat.le_of_ble_eq_true rfl) rfl ?_ | refine Hp.wp_store 6 sh rfl rfl rfl rfl (by kernel_rfl) (Nat.le_of_ble_eq_true rfl) rfl ?_); clear sh; (try clear F); go_simp; intro w1 sh; have F := sh.facts; (try simp only [Hp.Facts, Hp.CellsAt, Nat.reduceAdd, List.cons_append, List.nil_append] at F))
            | fail)
        go_ret
        exact ⟨false, ret_bool (by first | (simp; done) | (simp; omega)), (fun h => by cases h), sh.below⟩

set_option maxHeartbeats 4000000 in set_option maxRecDepth 100000 in
theorem regionDoes_walk (x : Int) (ss : Option Addr) (S : List RegP.Stp) (sn sc : Nat) (w : World) (hx : -9223372036854775808 ≤ x ∧ x ≤ 9223372036854775807) (hl0 : sn = S.length) (hsn : sn ≤ 9223372036854775807) (hB0 : ∀ s ∈ S, RegP.StB s) (hR : Hp.RdV w ss (S.flatMap RegP.stc)) (hO : RegP.StOk S w) :
    Calls Try.prog 3 #[.int .i64 x, .slice ss sn sc] w fun e w' => e = .returned (.bool true) ∧ Below w.heap.size w w' := by
  have sh := Hp.Sh.start ((RdV_rob hR).and hO.rob)
  have HSH := Lib.hid (fun W h => rshort ss S sn sc W hl0 hsn hB0 h)
  have hl := Lib.hid hl0
  have HB := Lib.hid hB0
  clear hR hO hl0 hB0
  have HW := Lib.hid (fun W => rworded W)
  by_cases hok : 1 ≤ x ∧ x ≤ 4096
  · obtain ⟨n, rfl⟩ := Int.eq_ofNat_of_zero_le (show 0 ≤ x by omega)
    have h1 : 1 ≤ n := by omega
    have h2 : n ≤ 4096 := by omega
    have HN := Lib.hid (fun w0 W H D sh => rnew_yes n w0 W H D sh h1 h2)
    have HR := Lib.hid (fun w0 W H D sh => rrnew_yes n w0 W H D sh h1 h2)
    have HLEN := Lib.hid (fun bm g W h => rlen bm g n W h)
    clear hok hx
    go_enter Try.func3, Try.ntmps3
    go_wp2_with (first
        | ((with_reducible refine Hp.wpl_box sh ?_ ?_); exact rfl; clear sh; (try clear F); go_simp; intro b w1 sh; have F := sh.facts; (try simp only [Hp.Facts, Hp.CellsAt, Nat.reduceAdd, List.cons_append, List.nil_append] at F))
        | ((with_reducible refine Hp.atl_store ?_ ?_); exact rfl; (first | refine Hp.wp_store 0 sh rfl rfl rfl rfl (by kernel_rfl) (Nat.le_of_ble_eq_true rfl) rfl ?_ | refine Hp.wp_store 1 sh rfl rfl rfl rfl (by kernel_rfl) (Nat.le_of_ble_eq_true rfl) rfl ?_ | refine Hp.wp_store 2 sh rfl rfl rfl rfl (by kernel_rfl) (Nat.le_of_ble_eq_true rfl) rfl ?_ | refine Hp.wp_store 3 sh rfl rfl rfl rfl (by kernel_rfl) (Nat.le_of_ble_eq_true rfl) rfl ?_ | refine Hp.wp_store 4 sh rfl rfl rfl rfl (by kernel_rfl) (Nat.le_of_ble_eq_true rfl) rfl ?_ | refine Hp.wp_store 5 sh rfl rfl rfl rfl (by kernel_rfl) (Nat.le_of_ble_eq_true rfl) rfl ?_ | refine Hp.wp_store 6 sh rfl rfl rfl rfl (by kernel_rfl) (Nat.le_of_ble_eq_true rfl) rfl ?_); clear sh; (try clear F); go_simp; intro w1 sh; have F := sh.facts; (try simp only [Hp.Facts, Hp.CellsAt, Nat.reduceAdd, List.cons_append, List.nil_append] at F))
        | fail)
    go_fit (HSH.out _ sh.data.1); rintro e w1 ⟨b, rfl, -, hb⟩; replace sh := sh.call hb; clear hb
    cases b with
    | false =>
      go_wp2_with (first
          | ((with_reducible refine Hp.wpl_box sh ?_ ?_); exact rfl; clear sh; (try clear F); go_simp; intro b w1 sh; have F := sh.facts; (try simp only [Hp.Facts, Hp.CellsAt, Nat.reduceAdd, List.cons_append, List.nil_append] at F))
          | ((with_reducible refine Hp.atl_store ?_ ?_); exact rfl; (first | refine Hp.wp_store 0 sh rfl rfl rfl rfl (by kernel_rfl) (Nat.le_of_ble_eq_true rfl) rfl ?_ | refine Hp.wp_store 1 sh rfl rfl rfl rfl (by kernel_rfl) (Nat.le_of_ble_eq_true rfl) rfl ?_ | refine Hp.wp_store 2 sh rfl rfl rfl rfl (by kernel_rfl) (Nat.le_of_ble_eq_true rfl) rfl ?_ | refine Hp.wp_store 3 sh rfl rfl rfl rfl (by kernel_rfl) (Nat.le_of_ble_eq_true rfl) rfl ?_ | refine Hp.wp_store 4 sh rfl rfl rfl rfl (by kernel_rfl) (Nat.le_of_ble_eq_true rfl) rfl ?_ | refine Hp.wp_store 5 sh rfl rfl rfl rfl (by kernel_rfl) (Nat.le_of_ble_eq_true rfl) rfl ?_ | refine Hp.wp_store 6 sh rfl rfl rfl rfl (by kernel_rfl) (Nat.le_of_ble_eq_true rfl) rfl ?_); clear sh; (try clear F); go_simp; intro w1 sh; have F := sh.facts; (try simp only [Hp.Facts, Hp.CellsAt, Nat.reduceAdd, List.cons_append, List.nil_append] at F))
          | fail)
      go_ret
      exact ⟨rfl, sh.below⟩
    | true =>
      go_wp2_with (first
          | ((with_reducible refine Hp.wpl_box sh ?_ ?_); exact rfl; clear sh; (try clear F); go_simp; intro b w1 sh; have F := sh.facts; (try simp only [Hp.Facts, Hp.CellsAt, Nat.reduceAdd, List.cons_append, List.nil_append] at F))
          | ((with_reducible refine Hp.atl_store ?_ ?_); exact rfl; (first | refine Hp.wp_store 0 sh rfl rfl rfl rfl (by kernel_rfl) (Nat.le_of_ble_eq_true rfl) rfl ?_ | refine Hp.wp_store 1 sh rfl rfl rfl rfl (by kernel_rfl) (Nat.le_of_ble_eq_true rfl) rfl ?_ | refine Hp.wp_store 2 sh rfl rfl rfl rfl (by kernel_rfl) (Nat.le_of_ble_eq_true rfl) rfl ?_ | refine Hp.wp_store 3 sh rfl rfl rfl rfl (by kernel_rfl) (Nat.le_of_ble_eq_true rfl) rfl ?_ | refine Hp.wp_store 4 sh rfl rfl rfl rfl (by kernel_rfl) (Nat.le_of_ble_eq_true rfl) rfl ?_ | refine Hp.wp_store 5 sh rfl rfl rfl rfl (by kernel_rfl) (Nat.le_of_ble_eq_true rfl) rfl ?_ | refine Hp.wp_store 6 sh rfl rfl rfl rfl (by kernel_rfl) (Nat.le_of_ble_eq_true rfl) rfl ?_); clear sh; (try clear F); go_simp; intro w1 sh; have F := sh.facts; (try simp only [Hp.Facts, Hp.CellsAt, Nat.reduceAdd, List.cons_append, List.nil_append] at F))
          | fail)
      go_fit (HN.out w _ _ _ sh); clear sh; rintro e w1 ⟨bm, g, rfl, sh⟩
      have F := sh.facts; (try simp only [Hp.Facts, Hp.CellsAt, Nat.reduceAdd, List.cons_append, List.nil_append] at F)
      go_wp2_with (first
          | ((with_reducible refine Hp.wpl_box sh ?_ ?_); exact rfl; clear sh; (try clear F); go_simp; intro b w1 sh; have F := sh.facts; (try simp only [Hp.Facts, Hp.CellsAt, Nat.reduceAdd, List.cons_append, List.nil_append] at F))
          | ((with_reducible refine Hp.atl_store ?_ ?_); exact rfl; (first | refine Hp.wp_store 0 sh rfl rfl rfl rfl (by kernel_rfl) (Nat.le_of_ble_eq_true rfl) rfl ?_ | refine Hp.wp_store 1 sh rfl rfl rfl rfl (by kernel_rfl) (Nat.le_of_ble_eq_true rfl) rfl ?_ | refine Hp.wp_store 2 sh rfl rfl rfl rfl (by kernel_rfl) (Nat.le_of_ble_eq_true rfl) rfl ?_ | refine Hp.wp_store 3 sh rfl rfl rfl rfl (by kernel_rfl) (Nat.le_of_ble_eq_true rfl) rfl ?_ | refine Hp.wp_store 4 sh rfl rfl rfl rfl (by kernel_rfl) (Nat.le_of_ble_eq_true rfl) rfl ?_ | refine Hp.wp_store 5 sh rfl rfl rfl rfl (by kernel_rfl) (Nat.le_of_ble_eq_true rfl) rfl ?_ | refine Hp.wp_store 6 sh rfl rfl rfl rfl (by kernel_rfl) (Nat.le_of_ble_eq_true rfl) rfl ?_); clear sh; (try clear F); go_simp; intro w1 sh; have F := sh.facts; (try simp only [Hp.Facts, Hp.CellsAt, Nat.reduceAdd, List.cons_append, List.nil_append] at F))
          | fail)
      go_fit (HR.out w _ _ _ sh)
      clear sh; (try clear F)
      rintro e w1 ⟨bn, h, rfl, sh⟩
      have F := sh.facts; (try simp only [Hp.Facts, Hp.CellsAt, Nat.reduceAdd, List.cons_append, List.nil_append] at F)
      replace sh := (sh.perm (swap2 _ _ _)).imp (E := fun W => RegP.MemIs bm g n W ∧ RegP.MemIs bn h n W ∧ Hp.RdV W ss (S.flatMap RegP.stc) ∧ RegP.StOk S W) (fun W q => ⟨q.2.1, q.1, q.2.2⟩)
      clear F
      have F := sh.facts; (try simp only [Hp.Facts, Hp.CellsAt, Nat.reduceAdd, List.cons_append, List.nil_append] at F)
      go_wp2_with (first
          | ((with_reducible refine Hp.wpl_box sh ?_ ?_); exact rfl; clear sh; (try clear F); go_simp; intro b w1 sh; have F := sh.facts; (try simp only [Hp.Facts, Hp.CellsAt, Nat.reduceAdd, List.cons_append, List.nil_append] at F))
          | ((with_reducible refine Hp.atl_store ?_ ?_); exact rfl; (first | refine Hp.wp_store 0 sh rfl rfl rfl rfl (by kernel_rfl) (Nat.le_of_ble_eq_true rfl) rfl ?_ | refine Hp.wp_store 1 sh rfl rfl rfl rfl (by kernel_rfl) (Nat.le_of_ble_eq_true rfl) rfl ?_ | refine Hp.wp_store 2 sh rfl rfl rfl rfl (by kernel_rfl) (Nat.le_of_ble_eq_true rfl) rfl ?_ | refine Hp.wp_store 3 sh rfl rfl rfl rfl (by kernel_rfl) (Nat.le_of_ble_eq_true rfl) rfl ?_ | refine Hp.wp_store 4 sh rfl rfl rfl rfl (by kernel_rfl) (Nat.le_of_ble_eq_true rfl) rfl ?_ | refine Hp.wp_store 5 sh rfl rfl rfl rfl (by kernel_rfl) (Nat.le_of_ble_eq_true rfl) rfl ?_ | refine Hp.wp_store 6 sh rfl rfl rfl rfl (by kernel_rfl) (Nat.le_of_ble_eq_true rfl) rfl ?_); clear sh; (try clear F); go_simp; intro w1 sh; have F := sh.facts; (try simp only [Hp.Facts, Hp.CellsAt, Nat.reduceAdd, List.cons_append, List.nil_append] at F))
          | fail)
      go_loopw [9] (fun i wr => ∃ (k : Nat) (ws : List Int), i = .int .i64 k ∧ k ≤ sn ∧ Hid (ws.length = n) ∧ Hp.Sh w wr [(g, (ints ws).toArray, 47), (h, (ints ws).toArray, 47)] (fun W => RegP.MemIs bm g n W ∧ RegP.MemIs bn h n W ∧ Hp.RdV W ss (S.flatMap RegP.stc) ∧ RegP.StOk S W)) (fun i _ => sn - (intOf i).toNat)
      case atStart => exact ⟨0, List.replicate n 0, rfl, by omega, by simp [Hid], sh⟩
      case round =>
        clear sh F
        obtain ⟨k, ws, rfl, hk, HWS, sh⟩ := hrel
        have F := sh.facts; (try simp only [Hp.Facts, Hp.CellsAt, Nat.reduceAdd, List.cons_append, List.nil_append] at F)
        by_cases hlt : k < sn
        · have hlI : (k : Int) < (sn : Int) := by omega
          have g1 : k < S.length := by rw [← hl.out]; exact hlt
          obtain ⟨p, hp, -⟩ := sh.data.2.2.1 (Hp.flat_pos RegP.stc_len (by decide) g1)
          subst hp
          have HC := Lib.hid (fun W (hd : Hp.RdV W (some p) (S.flatMap RegP.stc)) => RegP.st_cells hd g1)
          have hbd := HB.out _ (List.getElem_mem g1)
          have HL := Lib.hid (fun W (hd : RegP.StOk S W) => hd _ (List.getElem_mem g1))
          have HLN := Lib.hid (RegP.step_len (n := n) (ws := ws) (s := S[k]) HWS.out)
          unfold RegP.stepS at HLN
          generalize S[k] = s at HC hbd HL HLN
          obtain ⟨kd, at', nn, b, z, r, ⟨ks, kn, kc⟩, f, ag, ⟨ls, l, lc⟩⟩ := s
          dsimp only at HC hbd HL HLN
          obtain ⟨b0, b1, b2, b3, b4, b5⟩ := hbd
          have HA := Lib.hid (fun w0 W H D sh q1 q2 q3 => ranswers bm g bn h n ws kd at' nn b z r ks kn kc f ag ls l l.length lc w0 W H D sh (by omega) HWS.out b0 b1 b2 b3 b4 rfl b5 q1 q2 q3)
          generalize RegP.stepW n ws kd at' nn b z l = ws' at HA HLN
          obtain ⟨q0, q1, q2, q3, q4, q5, q6, q7, q8, q9⟩ := HC.out _ sh.data.2.2.1
          clear g1 b0 b1 b2 b3 b4
          generalize l.length = ln at q9 HA b5
          go_wp2_with (first
              | ((with_reducible refine Hp.wpl_box sh ?_ ?_); exact rfl; clear sh; (try clear F); go_simp; intro b w1 sh; have F := sh.facts; (try simp only [Hp.Facts, Hp.CellsAt, Nat.reduceAdd, List.cons_append, List.nil_append] at F))
              | ((with_reducible refine Hp.atl_store ?_ ?_); exact rfl; (first | refine Hp.wp_store 0 sh rfl rfl rfl rfl (by kernel_rfl) (Nat.le_of_ble_eq_true rfl) rfl ?_ | refine Hp.wp_store 1 sh rfl rfl rfl rfl (by kernel_rfl) (Nat.le_of_ble_eq_true rfl) rfl ?_ | refine Hp.wp_store 2 sh rfl rfl rfl rfl (by kernel_rfl) (Nat.le_of_ble_eq_true rfl) rfl ?_ | refine Hp.wp_store 3 sh rfl rfl rfl rfl (by kernel_rfl) (Nat.le_of_ble_eq_true rfl) rfl ?_ | refine Hp.wp_store 4 sh rfl rfl rfl rfl (by kernel_rfl) (Nat.le_of_ble_eq_true rfl) rfl ?_ | refine Hp.wp_store 5 sh rfl rfl rfl rfl (by kernel_rfl) (Nat.le_of_ble_eq_true rfl) rfl ?_ | refine Hp.wp_store 6 sh rfl rfl rfl rfl (by kernel_rfl) (Nat.le_of_ble_eq_true rfl) rfl ?_); clear sh; (try clear F); go_simp; intro w1 sh; have F := sh.facts; (try simp only [Hp.Facts, Hp.CellsAt, Nat.reduceAdd, List.cons_append, List.nil_append] at F))
              | fail)
          go_fit (HA.out w _ _ _ sh (fun W q => q.1) (fun W q => q.2.1) (fun W q => HL.out W q.2.2.2)); clear sh F; rintro e w1 ⟨rfl, sh⟩
          have F := sh.facts; (try simp only [Hp.Facts, Hp.CellsAt, Nat.reduceAdd, List.cons_append, List.nil_append] at F)
          clear q0 q1 q2 q3 q4 q5 q6 q7 q8 q9
          go_wp2_with (first
              | ((with_reducible refine Hp.wpl_box sh ?_ ?_); exact rfl; clear sh; (try clear F); go_simp; intro b w1 sh; have F := sh.facts; (try simp only [Hp.Facts, Hp.CellsAt, Nat.reduceAdd, List.cons_append, List.nil_append] at F))
              | ((with_reducible refine Hp.atl_store ?_ ?_); exact rfl; (first | refine Hp.wp_store 0 sh rfl rfl rfl rfl (by kernel_rfl) (Nat.le_of_ble_eq_true rfl) rfl ?_ | refine Hp.wp_store 1 sh rfl rfl rfl rfl (by kernel_rfl) (Nat.le_of_ble_eq_true rfl) rfl ?_ | refine Hp.wp_store 2 sh rfl rfl rfl rfl (by kernel_rfl) (Nat.le_of_ble_eq_true rfl) rfl ?_ | refine Hp.wp_store 3 sh rfl rfl rfl rfl (by kernel_rfl) (Nat.le_of_ble_eq_true rfl) rfl ?_ | refine Hp.wp_store 4 sh rfl rfl rfl rfl (by kernel_rfl) (Nat.le_of_ble_eq_true rfl) rfl ?_ | refine Hp.wp_store 5 sh rfl rfl rfl rfl (by kernel_rfl) (Nat.le_of_ble_eq_true rfl) rfl ?_ | refine Hp.wp_store 6 sh rfl rfl rfl rfl (by kernel_rfl) (Nat.le_of_ble_eq_true rfl) rfl ?_); clear sh; (try clear F); go_simp; intro w1 sh; have F := sh.facts; (try simp only [Hp.Facts, Hp.CellsAt, Nat.reduceAdd, List.cons_append, List.nil_append] at F))
              | fail)
          go_roundw
          case rel => exact ⟨k + 1, ws', by go_num, by omega, HLN.out, sh⟩
          case measure => simp [intOf]; omega
        · obtain rfl : k = sn := by omega
          have HV := Lib.hid (fun w0 W H D (sh : Hp.Sh w0 W H D) q1 q2 => (rview bm g n ws 0 n 0 none 0 0 0 0 W (by omega) (by omega) (by omega) q1 HWS.out q2).mono fun e w' h => RegP.RowP.sh sh h)
          rw [RegP.view_all HWS.out h1] at HV
          have HS := Lib.hid (fun s r c d W q1 q2 => sameT2 s r ws n c d W HWS.out q1 q2 (by omega))
          go_wp2_with (first
              | ((with_reducible refine Hp.wpl_box sh ?_ ?_); exact rfl; clear sh; (try clear F); go_simp; intro b w1 sh; have F := sh.facts; (try simp only [Hp.Facts, Hp.CellsAt, Nat.reduceAdd, List.cons_append, List.nil_append] at F))
              | ((with_reducible refine Hp.atl_store ?_ ?_); exact rfl; (first | refine Hp.wp_store 0 sh rfl rfl rfl rfl (by kernel_rfl) (Nat.le_of_ble_eq_true rfl) rfl ?_ | refine Hp.wp_store 1 sh rfl rfl rfl rfl (by kernel_rfl) (Nat.le_of_ble_eq_true rfl) rfl ?_ | refine Hp.wp_store 2 sh rfl rfl rfl rfl (by kernel_rfl) (Nat.le_of_ble_eq_true rfl) rfl ?_ | refine Hp.wp_store 3 sh rfl rfl rfl rfl (by kernel_rfl) (Nat.le_of_ble_eq_true rfl) rfl ?_ | refine Hp.wp_store 4 sh rfl rfl rfl rfl (by kernel_rfl) (Nat.le_of_ble_eq_true rfl) rfl ?_ | refine Hp.wp_store 5 sh rfl rfl rfl rfl (by kernel_rfl) (Nat.le_of_ble_eq_true rfl) rfl ?_ | refine Hp.wp_store 6 sh rfl rfl rfl rfl (by kernel_rfl) (Nat.le_of_ble_eq_true rfl) rfl ?_); clear sh; (try clear F); go_simp; intro w1 sh; have F := sh.facts; (try simp only [Hp.Facts, Hp.CellsAt, Nat.reduceAdd, List.cons_append, List.nil_append] at F))
              | fail)
          refine Hp.region_sh (by kernel_rfl) sh ?_; clear sh F; intro w1 sh; have F := sh.facts; (try simp only [Hp.Facts, Hp.CellsAt, Nat.reduceAdd, List.cons_append, List.nil_append] at F)
          refine Hp.branch [0] (by kernel_rfl) (by simp) ?_
          refine Hp.Each.cons ?_ ?_
          · refine Hp.op_step (o := ⟨some 54, Op.call { callee := Callee.value (Operand.func 10), args := #[], argTypes := #[] }, _, _, _, none⟩) rfl (by rfl) (fun K hK => ?_)
            go_simp
            go_fit (HW.out _); rintro e w1 ⟨rfl, hb⟩; replace sh := sh.call hb; clear hb; (try clear F); have F := sh.facts; (try simp only [Hp.Facts, Hp.CellsAt, Nat.reduceAdd, List.cons_append, List.nil_append] at F)
            refine hK _ _ ⟨sh.facts, sh.data⟩ ?_; clear hK K; (try simp only [Act.put, List.setIfInBounds_toArray, List.set_cons_zero, List.set_cons_succ])
            refine Hp.take (i := 1) (oi := ⟨some 55, Op.move (Operand.tmp 54), _, _, _, none⟩) (v := ?_) rfl (by kernel_rfl) (by kernel_rfl) (by kernel_rfl) (fun _ _ _ h => h) (by rfl) ⟨sh.facts, sh.data⟩ ?_ ?_
            rotate_left
            · intro w' hh
              clear hh; go_simp
              try with_reducible rfl
            (try simp only [Act.put, List.setIfInBounds_toArray, List.set_cons_zero, List.set_cons_succ])
            refine Hp.take (i := 2) (oi := ⟨some 56, Op.move (Operand.tmp 5), _, _, _, some (1, true)⟩) (v := ?_) rfl (by kernel_rfl) (by kernel_rfl) (by kernel_rfl) (fun _ _ _ h => h) (by rfl) ⟨sh.facts, sh.data⟩ ?_ ?_
            rotate_left
            · intro w' hh
              clear hh; go_simp
              try with_reducible rfl
            (try simp only [Act.put, List.setIfInBounds_toArray, List.set_cons_zero, List.set_cons_succ])
            refine Hp.take (i := 4) (oi := ⟨some 58, Op.move (Operand.tmp 0), _, _, _, some (1, true)⟩) (v := ?_) rfl (by kernel_rfl) (by kernel_rfl) (by kernel_rfl) (fun _ _ _ h => h) (by rfl) ⟨sh.facts, sh.data⟩ ?_ ?_
            rotate_left
            · intro w' hh
              clear hh; go_simp
              try with_reducible rfl
            (try simp only [Act.put, List.setIfInBounds_toArray, List.set_cons_zero, List.set_cons_succ])
            refine Hp.branch [3] (by kernel_rfl) (by simp) ?_
            refine Hp.Each.cons ?_ ?_
            · refine Hp.op_step (o := ⟨some 57, Op.call { callee := Callee.value (Operand.func 12), args := #[Operand.tmp 56], argTypes := #[24] }, _, _, _, some (1, true)⟩) rfl (by rfl) (fun K hK => ?_)
              go_simp
              go_fit (HLEN.out bm g _ sh.data.1); rintro e w1 ⟨rfl, hb⟩; replace sh := sh.call hb; clear hb; (try clear F); have F := sh.facts; (try simp only [Hp.Facts, Hp.CellsAt, Nat.reduceAdd, List.cons_append, List.nil_append] at F)
              refine hK _ _ ⟨sh.facts, sh.data⟩ ?_; clear hK K; (try simp only [Act.put, List.setIfInBounds_toArray, List.set_cons_zero, List.set_cons_succ])
              refine Hp.take (i := 5) (oi := ⟨some 59, Op.binOp BinOp.eql 3 (Operand.tmp 57) (Operand.tmp 58) 3, _, _, _, some (1, true)⟩) (v := ?_) rfl (by kernel_rfl) (by kernel_rfl) (by kernel_rfl) (fun _ _ _ h => h) (by rfl) ⟨sh.facts, sh.data⟩ ?_ ?_
              rotate_left
              · intro w' hh
                clear hh; go_simp
                try with_reducible rfl
              (try simp only [Act.put, List.setIfInBounds_toArray, List.set_cons_zero, List.set_cons_succ])
              refine Hp.take (i := 6) (oi := ⟨some 60, Op.pick (Operand.tmp 55) (Operand.tmp 59) (Operand.const (Value.bool false)), _, _, _, none⟩) (v := ?_) rfl (by kernel_rfl) (by kernel_rfl) (by kernel_rfl) (fun _ _ _ h => h) (by rfl) ⟨sh.facts, sh.data⟩ ?_ ?_
              rotate_left
              · intro w' hh
                clear hh; go_simp
                try with_reducible rfl
              (try simp only [Act.put, List.setIfInBounds_toArray, List.set_cons_zero, List.set_cons_succ])
              refine Hp.take (i := 7) (oi := ⟨some 61, Op.move (Operand.tmp 60), _, _, _, none⟩) (v := ?_) rfl (by kernel_rfl) (by kernel_rfl) (by kernel_rfl) (fun _ _ _ h => h) (by rfl) ⟨sh.facts, sh.data⟩ ?_ ?_
              rotate_left
              · intro w' hh
                clear hh; go_simp
                try with_reducible rfl
              (try simp only [Act.put, List.setIfInBounds_toArray, List.set_cons_zero, List.set_cons_succ])
              refine Hp.take (i := 8) (oi := ⟨some 62, Op.move (Operand.tmp 5), _, _, _, some (7, true)⟩) (v := ?_) rfl (by kernel_rfl) (by kernel_rfl) (by kernel_rfl) (fun _ _ _ h => h) (by rfl) ⟨sh.facts, sh.data⟩ ?_ ?_
              rotate_left
              · intro w' hh
                clear hh; go_simp
                try with_reducible rfl
              (try simp only [Act.put, List.setIfInBounds_toArray, List.set_cons_zero, List.set_cons_succ])
              refine Hp.take (i := 9) (oi := ⟨some 63, Op.move (Operand.tmp 0), _, _, _, some (7, true)⟩) (v := ?_) rfl (by kernel_rfl) (by kernel_rfl) (by kernel_rfl) (fun _ _ _ h => h) (by rfl) ⟨sh.facts, sh.data⟩ ?_ ?_
              rotate_left
              · intro w' hh
                clear hh; go_simp
                try with_reducible rfl
              (try simp only [Act.put, List.setIfInBounds_toArray, List.set_cons_zero, List.set_cons_succ])
              refine Hp.take (i := 10) (oi := ⟨some 64, Op.build 35 #[(1, Operand.tmp 63)], _, _, _, some (7, true)⟩) (v := ?_) rfl (by kernel_rfl) (by kernel_rfl) (by kernel_rfl) (fun _ _ _ h => h) (by rfl) ⟨sh.facts, sh.data⟩ ?_ ?_
              rotate_left
              · intro w' hh
                clear hh; go_simp
                try with_reducible rfl
              (try simp only [Act.put, List.setIfInBounds_toArray, List.set_cons_zero, List.set_cons_succ])
              refine Hp.take (i := 12) (oi := ⟨some 66, Op.move (Operand.tmp 7), _, _, _, some (7, true)⟩) (v := ?_) rfl (by kernel_rfl) (by kernel_rfl) (by kernel_rfl) (fun _ _ _ h => h) (by rfl) ⟨sh.facts, sh.data⟩ ?_ ?_
              rotate_left
              · intro w' hh
                clear hh; go_simp
                try with_reducible rfl
              (try simp only [Act.put, List.setIfInBounds_toArray, List.set_cons_zero, List.set_cons_succ])
              refine Hp.take (i := 13) (oi := ⟨some 67, Op.nilCheck (Operand.tmp 66), _, _, _, some (7, true)⟩) (v := ?_) rfl (by kernel_rfl) (by kernel_rfl) (by kernel_rfl) (fun _ _ _ h => h) (by rfl) ⟨sh.facts, sh.data⟩ ?_ ?_
              rotate_left
              · intro w' hh
                clear hh; go_simp
                try with_reducible rfl
              (try simp only [Act.put, List.setIfInBounds_toArray, List.set_cons_zero, List.set_cons_succ])
              refine Hp.take (i := 14) (oi := ⟨some 68, Op.fieldAddr 42 (Operand.tmp 67) 0, _, _, _, some (7, true)⟩) (v := ?_) rfl (by kernel_rfl) (by kernel_rfl) (by kernel_rfl) (fun _ _ _ h => h) (by rfl) ⟨sh.facts, sh.data⟩ ?_ ?_
              rotate_left
              · intro w' hh
                clear hh; go_simp
                try with_reducible rfl
              (try simp only [Act.put, List.setIfInBounds_toArray, List.set_cons_zero, List.set_cons_succ])
              refine Hp.take (i := 15) (oi := ⟨some 69, Op.load 33 (Operand.tmp 68), _, _, _, some (7, true)⟩) (v := ?_) rfl (by kernel_rfl) (by kernel_rfl) (by kernel_rfl) (fun _ _ _ h => h) (by rfl) ⟨sh.facts, sh.data⟩ ?_ ?_
              rotate_left
              · intro w' hh
                have F' := hh.1; have hd := hh.2; clear hh; (try simp only [Hp.Facts, Hp.CellsAt, Nat.reduceAdd, List.cons_append, List.nil_append] at F'); have hm := RegP.MemIs.cell hd.2.1
                go_simp
                try with_reducible rfl
              (try simp only [Act.put, List.setIfInBounds_toArray, List.set_cons_zero, List.set_cons_succ])
              refine Hp.branch [11] (by kernel_rfl) (by simp) ?_
              refine Hp.Each.cons ?_ ?_
              · refine Hp.op_step (o := ⟨some 65, Op.call { callee := Callee.value (Operand.func 14), args := #[Operand.tmp 62, Operand.tmp 64], argTypes := #[24, 35] }, _, _, _, some (7, true)⟩) rfl (by rfl) (fun K hK => ?_)
                go_simp
                go_fit (HV.out w _ _ _ sh sh.data.1 (RegP.own_rdv sh 0 rfl)); clear sh; (try clear F); rintro e w1 ⟨s1, c1, rfl, sh⟩; have F := sh.facts; (try simp only [Hp.Facts, Hp.CellsAt, Nat.reduceAdd, List.cons_append, List.nil_append] at F)
                refine hK _ _ ⟨sh.facts, sh.data.2⟩ ?_; clear hK K; (try simp only [Act.put, List.setIfInBounds_toArray, List.set_cons_zero, List.set_cons_succ])
                refine Hp.branch [16] (by kernel_rfl) (by simp) ?_
                refine Hp.Each.cons ?_ ?_
                · refine Hp.op_step (o := ⟨some 70, Op.call { callee := Callee.value (Operand.func 13), args := #[Operand.tmp 65, Operand.tmp 69], argTypes := #[33, 33] }, _, _, _, some (7, true)⟩) rfl (by rfl) (fun K hK => ?_)
                  go_simp
                  go_fit (HS.out s1 _ c1 _ _ sh.data.1 (RegP.own_rdv sh 1 rfl)); rintro e w1 ⟨rfl, hb⟩; replace sh := sh.call hb; clear hb; (try clear F); have F := sh.facts; (try simp only [Hp.Facts, Hp.CellsAt, Nat.reduceAdd, List.cons_append, List.nil_append] at F)
                  refine hK _ _ ⟨sh.facts, sh.data.2⟩ ?_; clear hK K; (try simp only [Act.put, List.setIfInBounds_toArray, List.set_cons_zero, List.set_cons_succ])
                  refine Hp.take (i := 17) (oi := ⟨some 71, Op.pick (Operand.tmp 61) (Operand.tmp 70) (Operand.const (Value.bool false)), _, _, _, none⟩) (v := ?_) rfl (by kernel_rfl) (by kernel_rfl) (by kernel_rfl) (fun _ _ _ h => h) (by rfl) ⟨sh.facts, sh.data.2⟩ ?_ ?_
                  rotate_left
                  · intro w' hh
                    clear hh; go_simp
                    try with_reducible rfl
                  (try simp only [Act.put, List.setIfInBounds_toArray, List.set_cons_zero, List.set_cons_succ])
                  refine Hp.take (i := 18) (oi := ⟨some 4, Op.assign (Operand.tmp 71), _, _, _, none⟩) (v := ?_) rfl (by kernel_rfl) (by kernel_rfl) (by kernel_rfl) (fun _ _ _ h => h) (by rfl) ⟨sh.facts, sh.data.2⟩ ?_ ?_
                  rotate_left
                  · intro w' hh
                    clear hh; go_simp
                    try with_reducible rfl
                  (try simp only [Act.put, List.setIfInBounds_toArray, List.set_cons_zero, List.set_cons_succ])
                  refine wpAnyH_done (by kernel_rfl) ?_ _
                  go_wp2; go_ret; exact ⟨rfl, sh.below⟩
                exact Hp.Each.nil
              exact Hp.Each.nil
            exact Hp.Each.nil
          exact Hp.Each.nil
  · have HN := Lib.hid (fun W => rnew_no x W (by omega))
    have HR := Lib.hid (fun W => rrnew_no x W (by omega))
    clear hok
    go_enter Try.func3, Try.ntmps3
    go_wp2_with (first
        | ((with_reducible refine Hp.wpl_box sh ?_ ?_); exact rfl; clear sh; (try clear F); go_simp; intro b w1 sh; have F := sh.facts; (try simp only [Hp.Facts, Hp.CellsAt, Nat.reduceAdd, List.cons_append, List.nil_append] at F))
        | ((with_reducible refine Hp.atl_store ?_ ?_); exact rfl; (first | refine Hp.wp_store 0 sh rfl rfl rfl rfl (by kernel_rfl) (Nat.le_of_ble_eq_true rfl) rfl ?_ | refine Hp.wp_store 1 sh rfl rfl rfl rfl (by kernel_rfl) (Nat.le_of_ble_eq_true rfl) rfl ?_ | refine Hp.wp_store 2 sh rfl rfl rfl rfl (by kernel_rfl) (Nat.le_of_ble_eq_true rfl) rfl ?_ | refine Hp.wp_store 3 sh rfl rfl rfl rfl (by kernel_rfl) (Nat.le_of_ble_eq_true rfl) rfl ?_ | refine Hp.wp_store 4 sh rfl rfl rfl rfl (by kernel_rfl) (Nat.le_of_ble_eq_true rfl) rfl ?_ | refine Hp.wp_store 5 sh rfl rfl rfl rfl (by kernel_rfl) (Nat.le_of_ble_eq_true rfl) rfl ?_ | refine Hp.wp_store 6 sh rfl rfl rfl rfl (by kernel_rfl) (Nat.le_of_ble_eq_true rfl) rfl ?_); clear sh; (try clear F); go_simp; intro w1 sh; have F := sh.facts; (try simp only [Hp.Facts, Hp.CellsAt, Nat.reduceAdd, List.cons_append, List.nil_append] at F))
        | fail)
    go_fit (HSH.out _ sh.data.1); rintro e w1 ⟨b, rfl, -, hb⟩; replace sh := sh.call hb; clear hb
    cases b with
    | false =>
      go_wp2_with (first
          | ((with_reducible refine Hp.wpl_box sh ?_ ?_); exact rfl; clear sh; (try clear F); go_simp; intro b w1 sh; have F := sh.facts; (try simp only [Hp.Facts, Hp.CellsAt, Nat.reduceAdd, List.cons_append, List.nil_append] at F))
          | ((with_reducible refine Hp.atl_store ?_ ?_); exact rfl; (first | refine Hp.wp_store 0 sh rfl rfl rfl rfl (by kernel_rfl) (Nat.le_of_ble_eq_true rfl) rfl ?_ | refine Hp.wp_store 1 sh rfl rfl rfl rfl (by kernel_rfl) (Nat.le_of_ble_eq_true rfl) rfl ?_ | refine Hp.wp_store 2 sh rfl rfl rfl rfl (by kernel_rfl) (Nat.le_of_ble_eq_true rfl) rfl ?_ | refine Hp.wp_store 3 sh rfl rfl rfl rfl (by kernel_rfl) (Nat.le_of_ble_eq_true rfl) rfl ?_ | refine Hp.wp_store 4 sh rfl rfl rfl rfl (by kernel_rfl) (Nat.le_of_ble_eq_true rfl) rfl ?_ | refine Hp.wp_store 5 sh rfl rfl rfl rfl (by kernel_rfl) (Nat.le_of_ble_eq_true rfl) rfl ?_ | refine Hp.wp_store 6 sh rfl rfl rfl rfl (by kernel_rfl) (Nat.le_of_ble_eq_true rfl) rfl ?_); clear sh; (try clear F); go_simp; intro w1 sh; have F := sh.facts; (try simp only [Hp.Facts, Hp.CellsAt, Nat.reduceAdd, List.cons_append, List.nil_append] at F))
          | fail)
      go_ret
      exact ⟨rfl, sh.below⟩
    | true =>
      go_wp2_with (first
          | ((with_reducible refine Hp.wpl_box sh ?_ ?_); exact rfl; clear sh; (try clear F); go_simp; intro b w1 sh; have F := sh.facts; (try simp only [Hp.Facts, Hp.CellsAt, Nat.reduceAdd, List.cons_append, List.nil_append] at F))
          | ((with_reducible refine Hp.atl_store ?_ ?_); exact rfl; (first | refine Hp.wp_store 0 sh rfl rfl rfl rfl (by kernel_rfl) (Nat.le_of_ble_eq_true rfl) rfl ?_ | refine Hp.wp_store 1 sh rfl rfl rfl rfl (by kernel_rfl) (Nat.le_of_ble_eq_true rfl) rfl ?_ | refine Hp.wp_store 2 sh rfl rfl rfl rfl (by kernel_rfl) (Nat.le_of_ble_eq_true rfl) rfl ?_ | refine Hp.wp_store 3 sh rfl rfl rfl rfl (by kernel_rfl) (Nat.le_of_ble_eq_true rfl) rfl ?_ | refine Hp.wp_store 4 sh rfl rfl rfl rfl (by kernel_rfl) (Nat.le_of_ble_eq_true rfl) rfl ?_ | refine Hp.wp_store 5 sh rfl rfl rfl rfl (by kernel_rfl) (Nat.le_of_ble_eq_true rfl) rfl ?_ | refine Hp.wp_store 6 sh rfl rfl rfl rfl (by kernel_rfl) (Nat.le_of_ble_eq_true rfl) rfl ?_); clear sh; (try clear F); go_simp; intro w1 sh; have F := sh.facts; (try simp only [Hp.Facts, Hp.CellsAt, Nat.reduceAdd, List.cons_append, List.nil_append] at F))
          | fail)
      go_fit (HN.out _)
      rintro e w1 ⟨rfl, hb⟩
      replace sh := sh.call hb; clear hb; (try clear F); have F := sh.facts; (try simp only [Hp.Facts, Hp.CellsAt, Nat.reduceAdd, List.cons_append, List.nil_append] at F)
      go_wp2_with (first
          | ((with_reducible refine Hp.wpl_box sh ?_ ?_); exact rfl; clear sh; (try clear F); go_simp; intro b w1 sh; have F := sh.facts; (try simp only [Hp.Facts, Hp.CellsAt, Nat.reduceAdd, List.cons_append, List.nil_append] at F))
          | ((with_reducible refine Hp.atl_store ?_ ?_); exact rfl; (first | refine Hp.wp_store 0 sh rfl rfl rfl rfl (by kernel_rfl) (Nat.le_of_ble_eq_true rfl) rfl ?_ | refine Hp.wp_store 1 sh rfl rfl rfl rfl (by kernel_rfl) (Nat.le_of_ble_eq_true rfl) rfl ?_ | refine Hp.wp_store 2 sh rfl rfl rfl rfl (by kernel_rfl) (Nat.le_of_ble_eq_true rfl) rfl ?_ | refine Hp.wp_store 3 sh rfl rfl rfl rfl (by kernel_rfl) (Nat.le_of_ble_eq_true rfl) rfl ?_ | refine Hp.wp_store 4 sh rfl rfl rfl rfl (by kernel_rfl) (Nat.le_of_ble_eq_true rfl) rfl ?_ | refine Hp.wp_store 5 sh rfl rfl rfl rfl (by kernel_rfl) (Nat.le_of_ble_eq_true rfl) rfl ?_ | refine Hp.wp_store 6 sh rfl rfl rfl rfl (by kernel_rfl) (Nat.le_of_ble_eq_true rfl) rfl ?_); clear sh; (try clear F); go_simp; intro w1 sh; have F := sh.facts; (try simp only [Hp.Facts, Hp.CellsAt, Nat.reduceAdd, List.cons_append, List.nil_append] at F))
          | fail)
      go_fit (HR.out _)
      rintro e w1 ⟨rfl, hb⟩
      replace sh := sh.call hb; clear hb; (try clear F); have F := sh.facts; (try simp only [Hp.Facts, Hp.CellsAt, Nat.reduceAdd, List.cons_append, List.nil_append] at F)
      go_wp2_with (first
          | ((with_reducible refine Hp.wpl_box sh ?_ ?_); exact rfl; clear sh; (try clear F); go_simp; intro b w1 sh; have F := sh.facts; (try simp only [Hp.Facts, Hp.CellsAt, Nat.reduceAdd, List.cons_append, List.nil_append] at F))
          | ((with_reducible refine Hp.atl_store ?_ ?_); exact rfl; (first | refine Hp.wp_store 0 sh rfl rfl rfl rfl (by kernel_rfl) (Nat.le_of_ble_eq_true rfl) rfl ?_ | refine Hp.wp_store 1 sh rfl rfl rfl rfl (by kernel_rfl) (Nat.le_of_ble_eq_true rfl) rfl ?_ | refine Hp.wp_store 2 sh rfl rfl rfl rfl (by kernel_rfl) (Nat.le_of_ble_eq_true rfl) rfl ?_ | refine Hp.wp_store 3 sh rfl rfl rfl rfl (by kernel_rfl) (Nat.le_of_ble_eq_true rfl) rfl ?_ | refine Hp.wp_store 4 sh rfl rfl rfl rfl (by kernel_rfl) (Nat.le_of_ble_eq_true rfl) rfl ?_ | refine Hp.wp_store 5 sh rfl rfl rfl rfl (by kernel_rfl) (Nat.le_of_ble_eq_true rfl) rfl ?_ | refine Hp.wp_store 6 sh rfl rfl rfl rfl (by kernel_rfl) (Nat.le_of_ble_eq_true rfl) rfl ?_); clear sh; (try clear F); go_simp; intro w1 sh; have F := sh.facts; (try simp only [Hp.Facts, Hp.CellsAt, Nat.reduceAdd, List.cons_append, List.nil_append] at F))
          | fail)
      go_fit (HW.out _)
      rintro e w1 ⟨rfl, hb⟩
      replace sh := sh.call hb; clear hb; (try clear F); have F := sh.facts; (try simp only [Hp.Facts, Hp.CellsAt, Nat.reduceAdd, List.cons_append, List.nil_append] at F)
      go_wp2_with (first
          | ((with_reducible refine Hp.wpl_box sh ?_ ?_); exact rfl; clear sh; (try clear F); go_simp; intro b w1 sh; have F := sh.facts; (try simp only [Hp.Facts, Hp.CellsAt, Nat.reduceAdd, List.cons_append, List.nil_append] at F))
          | ((with_reducible refine Hp.atl_store ?_ ?_); exact rfl; (first | refine Hp.wp_store 0 sh rfl rfl rfl rfl (by kernel_rfl) (Nat.le_of_ble_eq_true rfl) rfl ?_ | refine Hp.wp_store 1 sh rfl rfl rfl rfl (by kernel_rfl) (Nat.le_of_ble_eq_true rfl) rfl ?_ | refine Hp.wp_store 2 sh rfl rfl rfl rfl (by kernel_rfl) (Nat.le_of_ble_eq_true rfl) rfl ?_ | refine Hp.wp_store 3 sh rfl rfl rfl rfl (by kernel_rfl) (Nat.le_of_ble_eq_true rfl) rfl ?_ | refine Hp.wp_store 4 sh rfl rfl rfl rfl (by kernel_rfl) (Nat.le_of_ble_eq_true rfl) rfl ?_ | refine Hp.wp_store 5 sh rfl rfl rfl rfl (by kernel_rfl) (Nat.le_of_ble_eq_true rfl) rfl ?_ | refine Hp.wp_store 6 sh rfl rfl rfl rfl (by kernel_rfl) (Nat.le_of_ble_eq_true rfl) rfl ?_); clear sh; (try clear F); go_simp; intro w1 sh; have F := sh.facts; (try simp only [Hp.Facts, Hp.CellsAt, Nat.reduceAdd, List.cons_append, List.nil_append] at F))
          | fail)
      go_ret
      exact ⟨rfl, sh.below⟩

end Go.Proofs.Ytkloejfbepkniaa
