/-
  The walk of Big.
-/
import Derived.Test.YtmdagajbelfnoaaGraph13
namespace Go.Proofs.Ytmdagajbelfnoaa
open Go.RowKit
set_option linter.unusedVariables false
set_option linter.unusedSimpArgs false

namespace GraP
/-- A partition, as Big sees it: its numbers, where its program lies. -/
abbrev Pt := Int × Int × Int × (Option Addr × Nat × Nat) × Int × Int
def ptc (c : Pt) : List Value := [.int .i64 c.1, .int .i64 c.2.1, .int .i64 c.2.2.1, .slice c.2.2.2.1.1 c.2.2.2.1.2.1 c.2.2.2.1.2.2, .int .i64 c.2.2.2.2.1, .int .i64 c.2.2.2.2.2]
def ptv (L : List Pt) : List Value := L.flatMap ptc
theorem ptv_get (L : List Pt) : ∀ (k j : Nat) (h : k < L.length), j < 6 → (ptv L)[k * 6 + j]? = (ptc L[k])[j]? := by
  induction L with
  | nil => intro k j h; simp at h
  | cons c L ih =>
    intro k j h hj
    rw [ptv, List.flatMap_cons, ← ptv]
    cases k with
    | zero => rw [List.getElem?_append_left (by simp [ptc]; omega)]; simp
    | succ k =>
      rw [List.getElem?_append_right (by simp [ptc]; omega), show (k + 1) * 6 + j - (ptc c).length = k * 6 + j by simp [ptc]; omega]
      exact ih k j (by simpa using h) hj
theorem ptv_pos {L : List Pt} (h : 0 < L.length) : 0 < (ptv L).length := by
  have := ptv_get L 0 0 h (by decide)
  refine Classical.byContradiction fun hn => ?_
  rw [List.getElem?_eq_none (by omega)] at this
  simp [ptc] at this
theorem ptv_cell {W : World} {p : Addr} {L : List Pt} (hR : Hp.RdV W (some p) (ptv L)) {k : Nat} (h : k < L.length) :
    W.cell? ⟨(p.add (k * 6)).block, (p.add (k * 6)).off + 3, none⟩ = some (.slice L[k].2.2.2.1.1 L[k].2.2.2.1.2.1 L[k].2.2.2.1.2.2) := by
  rw [add_off _ _ 3 (by decide)]
  exact hR.cell _ (ptv_get L k 3 h (by decide))
def BigP (pn wn hn : Nat) (w : World) (e : Ending) (w' : World) : Prop := ∃ b : Bool, e = .returned (.bool b) ∧ (b = false → pn ≤ 20 ∧ wn ≤ 100 ∧ hn ≤ 100) ∧ Below w.heap.size w w'
theorem min10000 (n : Nat) : (if (10000 : Int) < n then (10000 : Int) else n) = ((min n 10000 : Nat) : Int) := by split <;> omega
end GraP

set_option maxHeartbeats 4000000 in set_option maxRecDepth 100000 in
theorem gbig (pm : Int) (ps : Option Addr) (pn pc : Nat) (ws : Option Addr) (wn wq : Nat) (hs : Option Addr) (hn hc : Nat) (Ps : List GraP.Pt) (w : World) (hpn : pn ≤ 9223372036854775807) (hwn : wn ≤ 9223372036854775807) (hhn : hn ≤ 9223372036854775807) (hl0 : pn = Ps.length) (hrg : ∀ c ∈ Ps, c.2.2.2.1.2.1 ≤ 9223372036854775807) (hR : Hp.RdV w ps (GraP.ptv Ps)) :
    Calls Try.prog 8 #[.agg #[.int .i64 pm, .slice ps pn pc, .slice ws wn wq, .slice hs hn hc]] w fun e w' => GraP.BigP pn wn hn w e w' := by
  have sh := Hp.Sh.start (RdV_rob hR)
  have hl := Lib.hid hl0
  have HRG := Lib.hid hrg
  clear hR hl0 hrg
  go_enter Try.func8, Try.ntmps8
  have tok_bx : True := trivial
  go_wp2_with (first
      | ((have tok := tok_bx); clear tok tok_bx; (first | (with_reducible refine Hp.wpl_box sh ?_ ?_)); exact rfl; clear sh; (try clear F); go_simp; intro bx w1 sh; have F := sh.facts; (try simp only [Hp.Facts, Hp.CellsAt, Nat.reduceAdd, List.cons_append, List.nil_append] at F))
      | ((with_reducible refine Hp.wpl_box sh ?_ ?_); exact rfl; clear sh; (try clear F); go_simp; intro b w1 sh; have F := sh.facts; (try simp only [Hp.Facts, Hp.CellsAt, Nat.reduceAdd, List.cons_append, List.nil_append] at F))
      | ((with_reducible refine Hp.atl_store ?_ ?_); exact rfl; (first | refine Hp.wp_store 0 sh rfl rfl rfl rfl (by kernel_rfl) (Nat.le_of_ble_eq_true rfl) rfl ?_ | refine Hp.wp_store 1 sh rfl rfl rfl rfl (by kernel_rfl) (Nat.le_of_ble_eq_true rfl) rfl ?_ | refine Hp.wp_store 2 sh rfl rfl rfl rfl (by kernel_rfl) (Nat.le_of_ble_eq_true rfl) rfl ?_ | refine Hp.wp_store 3 sh rfl rfl rfl rfl (by kernel_rfl) (Nat.le_of_ble_eq_true rfl) rfl ?_ | refine Hp.wp_store 4 sh rfl rfl rfl rfl (by kernel_rfl) (Nat.le_of_ble_eq_true rfl) rfl ?_ | refine Hp.wp_store 5 sh rfl rfl rfl rfl (by kernel_rfl) (Nat.le_of_ble_eq_true rfl) rfl ?_ | refine Hp.wp_store 6 sh rfl rfl rfl rfl (by kernel_rfl) (Nat.le_of_ble_eq_true rfl) rfl ?_); clear sh; (try clear F); go_simp; intro w1 sh; have F := sh.facts; (try simp only [Hp.Facts, Hp.CellsAt, Nat.reduceAdd, List.cons_append, List.nil_append] at F))
      | fail)
  go_loopw [3, 4] (fun v i wr => ∃ k n : Nat, v = .int .i64 n ∧ i = .int .i64 k ∧ k ≤ pn ∧ (pn ≤ 20 ∨ k = 0) ∧ n ≤ k * 10000 ∧ Hp.Sh w wr [(bx, #[.int .i64 pm, .slice ps pn pc, .slice ws wn wq, .slice hs hn hc], 26)] (fun W => Hp.RdV W ps (GraP.ptv Ps))) (fun _ i _ => pn - (intOf i).toNat)
  case atStart => exact ⟨0, 0, rfl, rfl, by omega, by omega, by omega, sh⟩
  case round =>
    clear sh F
    obtain ⟨k, n, rfl, rfl, hk, h20, hn2, sh⟩ := hrel
    have F := sh.facts; (try simp only [Hp.Facts, Hp.CellsAt, Nat.reduceAdd, List.cons_append, List.nil_append] at F)
    by_cases hlt : k < pn ∧ pn ≤ 20
    · obtain ⟨hlt, hp20⟩ := hlt
      have hlI : (k : Int) < (pn : Int) := by omega
      have hpI : (pn : Int) ≤ 20 := by omega
      have g1 : k < Ps.length := by rw [← hl.out]; exact hlt
      obtain ⟨p, hp, -⟩ := sh.data (GraP.ptv_pos (by omega))
      subst hp
      have c1 := GraP.ptv_cell sh.data g1
      have hr := HRG.out _ (List.getElem_mem g1)
      generalize Ps[k] = c at c1 hr
      obtain ⟨_, _, _, ⟨s, cn, cc⟩, _, _⟩ := c
      dsimp only at c1 hr
      clear g1
      have hmn := GraP.min10000 cn
      have hmz := Nat.min_le_right cn 10000
      generalize min cn 10000 = d at hmn hmz
      go_wp2_with (first
          | ((with_reducible refine Hp.wpl_box sh ?_ ?_); exact rfl; clear sh; (try clear F); go_simp; intro b w1 sh; have F := sh.facts; (try simp only [Hp.Facts, Hp.CellsAt, Nat.reduceAdd, List.cons_append, List.nil_append] at F))
          | ((with_reducible refine Hp.atl_store ?_ ?_); exact rfl; (first | refine Hp.wp_store 0 sh rfl rfl rfl rfl (by kernel_rfl) (Nat.le_of_ble_eq_true rfl) rfl ?_ | refine Hp.wp_store 1 sh rfl rfl rfl rfl (by kernel_rfl) (Nat.le_of_ble_eq_true rfl) rfl ?_ | refine Hp.wp_store 2 sh rfl rfl rfl rfl (by kernel_rfl) (Nat.le_of_ble_eq_true rfl) rfl ?_ | refine Hp.wp_store 3 sh rfl rfl rfl rfl (by kernel_rfl) (Nat.le_of_ble_eq_true rfl) rfl ?_ | refine Hp.wp_store 4 sh rfl rfl rfl rfl (by kernel_rfl) (Nat.le_of_ble_eq_true rfl) rfl ?_ | refine Hp.wp_store 5 sh rfl rfl rfl rfl (by kernel_rfl) (Nat.le_of_ble_eq_true rfl) rfl ?_ | refine Hp.wp_store 6 sh rfl rfl rfl rfl (by kernel_rfl) (Nat.le_of_ble_eq_true rfl) rfl ?_); clear sh; (try clear F); go_simp; intro w1 sh; have F := sh.facts; (try simp only [Hp.Facts, Hp.CellsAt, Nat.reduceAdd, List.cons_append, List.nil_append] at F))
          | fail)
      go_roundw
      case rel => exact ⟨k + 1, n + d, by go_num, by go_num, by omega, by omega, by omega, sh⟩
      case measure => simp [intOf]; omega
    · clear hl HRG
      by_cases hp20 : pn ≤ 20
      · have hkk : (pn : Int) ≤ (k : Int) := by omega
        by_cases h3 : n ≤ 3000
        · by_cases h4 : wn ≤ 100
          · by_cases h5 : hn ≤ 100
            · go_wp2_with (first
                  | ((with_reducible refine Hp.wpl_box sh ?_ ?_); exact rfl; clear sh; (try clear F); go_simp; intro b w1 sh; have F := sh.facts; (try simp only [Hp.Facts, Hp.CellsAt, Nat.reduceAdd, List.cons_append, List.nil_append] at F))
                  | ((with_reducible refine Hp.atl_store ?_ ?_); exact rfl; (first | refine Hp.wp_store 0 sh rfl rfl rfl rfl (by kernel_rfl) (Nat.le_of_ble_eq_true rfl) rfl ?_ | refine Hp.wp_store 1 sh rfl rfl rfl rfl (by kernel_rfl) (Nat.le_of_ble_eq_true rfl) rfl ?_ | refine Hp.wp_store 2 sh rfl rfl rfl rfl (by kernel_rfl) (Nat.le_of_ble_eq_true rfl) rfl ?_ | refine Hp.wp_store 3 sh rfl rfl rfl rfl (by kernel_rfl) (Nat.le_of_ble_eq_true rfl) rfl ?_ | refine Hp.wp_store 4 sh rfl rfl rfl rfl (by kernel_rfl) (Nat.le_of_ble_eq_true rfl) rfl ?_ | refine Hp.wp_store 5 sh rfl rfl rfl rfl (by kernel_rfl) (Nat.le_of_ble_eq_true rfl) rfl ?_ | refine Hp.wp_store 6 sh rfl rfl rfl rfl (by kernel_rfl) (Nat.le_of_ble_eq_true rfl) rfl ?_); clear sh; (try clear F); go_simp; intro w1 sh; have F := sh.facts; (try simp only [Hp.Facts, Hp.CellsAt, Nat.reduceAdd, List.cons_append, List.nil_append] at F))
                  | fail)
              go_ret
              exact ⟨false, ret_bool (by first | (simp; done) | (simp; omega)), fun _ => ⟨hp20, h4, h5⟩, sh.below⟩
            · go_wp2_with (first
                  | ((with_reducible refine Hp.wpl_box sh ?_ ?_); exact rfl; clear sh; (try clear F); go_simp; intro b w1 sh; have F := sh.facts; (try simp only [Hp.Facts, Hp.CellsAt, Nat.reduceAdd, List.cons_append, List.nil_append] at F))
                  | ((with_reducible refine Hp.atl_store ?_ ?_); exact rfl; (first | refine Hp.wp_store 0 sh rfl rfl rfl rfl (by kernel_rfl) (Nat.le_of_ble_eq_true rfl) rfl ?_ | refine Hp.wp_store 1 sh rfl rfl rfl rfl (by kernel_rfl) (Nat.le_of_ble_eq_true rfl) rfl ?_ | refine Hp.wp_store 2 sh rfl rfl rfl rfl (by kernel_rfl) (Nat.le_of_ble_eq_true rfl) rfl ?_ | refine Hp.wp_store 3 sh rfl rfl rfl rfl (by kernel_rfl) (Nat.le_of_ble_eq_true rfl) rfl ?_ | refine Hp.wp_store 4 sh rfl rfl rfl rfl (by kernel_rfl) (Nat.le_of_ble_eq_true rfl) rfl ?_ | refine Hp.wp_store 5 sh rfl rfl rfl rfl (by kernel_rfl) (Nat.le_of_ble_eq_true rfl) rfl ?_ | refine Hp.wp_store 6 sh rfl rfl rfl rfl (by kernel_rfl) (Nat.le_of_ble_eq_true rfl) rfl ?_); clear sh; (try clear F); go_simp; intro w1 sh; have F := sh.facts; (try simp only [Hp.Facts, Hp.CellsAt, Nat.reduceAdd, List.cons_append, List.nil_append] at F))
                  | fail)
              go_ret
              exact ⟨true, ret_bool (by first | (simp; done) | (simp; omega)), (fun h => by cases h), sh.below⟩
          · go_wp2_with (first
                | ((with_reducible refine Hp.wpl_box sh ?_ ?_); exact rfl; clear sh; (try clear F); go_simp; intro b w1 sh; have F := sh.facts; (try simp only [Hp.Facts, Hp.CellsAt, Nat.reduceAdd, List.cons_append, List.nil_append] at F))
                | ((with_reducible refine Hp.atl_store ?_ ?_); exact rfl; (first | refine Hp.wp_store 0 sh rfl rfl rfl rfl (by kernel_rfl) (Nat.le_of_ble_eq_true rfl) rfl ?_ | refine Hp.wp_store 1 sh rfl rfl rfl rfl (by kernel_rfl) (Nat.le_of_ble_eq_true rfl) rfl ?_ | refine Hp.wp_store 2 sh rfl rfl rfl rfl (by kernel_rfl) (Nat.le_of_ble_eq_true rfl) rfl ?_ | refine Hp.wp_store 3 sh rfl rfl rfl rfl (by kernel_rfl) (Nat.le_of_ble_eq_true rfl) rfl ?_ | refine Hp.wp_store 4 sh rfl rfl rfl rfl (by kernel_rfl) (Nat.le_of_ble_eq_true rfl) rfl ?_ | refine Hp.wp_store 5 sh rfl rfl rfl rfl (by kernel_rfl) (Nat.le_of_ble_eq_true rfl) rfl ?_ | refine Hp.wp_store 6 sh rfl rfl rfl rfl (by kernel_rfl) (Nat.le_of_ble_eq_true rfl) rfl ?_); clear sh; (try clear F); go_simp; intro w1 sh; have F := sh.facts; (try simp only [Hp.Facts, Hp.CellsAt, Nat.reduceAdd, List.cons_append, List.nil_append] at F))
                | fail)
            go_ret
            exact ⟨true, ret_bool (by first | (simp; done) | (simp; omega)), (fun h => by cases h), sh.below⟩
        · go_wp2_with (first
              | ((with_reducible refine Hp.wpl_box sh ?_ ?_); exact rfl; clear sh; (try clear F); go_simp; intro b w1 sh; have F := sh.facts; (try simp only [Hp.Facts, Hp.CellsAt, Nat.reduceAdd, List.cons_append, List.nil_append] at F))
              | ((with_reducible refine Hp.atl_store ?_ ?_); exact rfl; (first | refine Hp.wp_store 0 sh rfl rfl rfl rfl (by kernel_rfl) (Nat.le_of_ble_eq_true rfl) rfl ?_ | refine Hp.wp_store 1 sh rfl rfl rfl rfl (by kernel_rfl) (Nat.le_of_ble_eq_true rfl) rfl ?_ | refine Hp.wp_store 2 sh rfl rfl rfl rfl (by kernel_rfl) (Nat.le_of_ble_eq_true rfl) rfl ?_ | refine Hp.wp_store 3 sh rfl rfl rfl rfl (by kernel_rfl) (Nat.le_of_ble_eq_true rfl) rfl ?_ | refine Hp.wp_store 4 sh rfl rfl rfl rfl (by kernel_rfl) (Nat.le_of_ble_eq_true rfl) rfl ?_ | refine Hp.wp_store 5 sh rfl rfl rfl rfl (by kernel_rfl) (Nat.le_of_ble_eq_true rfl) rfl ?_ | refine Hp.wp_store 6 sh rfl rfl rfl rfl (by kernel_rfl) (Nat.le_of_ble_eq_true rfl) rfl ?_); clear sh; (try clear F); go_simp; intro w1 sh; have F := sh.facts; (try simp only [Hp.Facts, Hp.CellsAt, Nat.reduceAdd, List.cons_append, List.nil_append] at F))
              | fail)
          go_ret
          exact ⟨true, ret_bool (by first | (simp; done) | (simp; omega)), (fun h => by cases h), sh.below⟩
      · obtain rfl : k = 0 := by omega
        have hp21 : ¬ ((pn : Int) ≤ 20) := by omega
        go_wp2_with (first
            | ((with_reducible refine Hp.wpl_box sh ?_ ?_); exact rfl; clear sh; (try clear F); go_simp; intro b w1 sh; have F := sh.facts; (try simp only [Hp.Facts, Hp.CellsAt, Nat.reduceAdd, List.cons_append, List.nil_append] at F))
            | ((with_reducible refine Hp.atl_store ?_ ?_); exact rfl; (first | refine Hp.wp_store 0 sh rfl rfl rfl rfl (by kernel_rfl) (Nat.le_of_ble_eq_true rfl) rfl ?_ | refine Hp.wp_store 1 sh rfl rfl rfl rfl (by kernel_rfl) (Nat.le_of_ble_eq_true rfl) rfl ?_ | refine Hp.wp_store 2 sh rfl rfl rfl rfl (by kernel_rfl) (Nat.le_of_ble_eq_true rfl) rfl ?_ | refine Hp.wp_store 3 sh rfl rfl rfl rfl (by kernel_rfl) (Nat.le_of_ble_eq_true rfl) rfl ?_ | refine Hp.wp_store 4 sh rfl rfl rfl rfl (by kernel_rfl) (Nat.le_of_ble_eq_true rfl) rfl ?_ | refine Hp.wp_store 5 sh rfl rfl rfl rfl (by kernel_rfl) (Nat.le_of_ble_eq_true rfl) rfl ?_ | refine Hp.wp_store 6 sh rfl rfl rfl rfl (by kernel_rfl) (Nat.le_of_ble_eq_true rfl) rfl ?_); clear sh; (try clear F); go_simp; intro w1 sh; have F := sh.facts; (try simp only [Hp.Facts, Hp.CellsAt, Nat.reduceAdd, List.cons_append, List.nil_append] at F))
            | fail)
        go_ret
        exact ⟨true, ret_bool (by first | (simp; done) | (simp; omega)), (fun h => by cases h), sh.below⟩

end Go.Proofs.Ytmdagajbelfnoaa
