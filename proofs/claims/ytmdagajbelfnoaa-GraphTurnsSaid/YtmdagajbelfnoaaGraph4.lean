/-
  The walk of further.
-/
import Derived.Test.YtmdagajbelfnoaaGraph3
import Derived.Test.YtmdagajbelfnoaaGraphBits
import Derived.Deep.LoopGhost
namespace Go.Proofs.Ytmdagajbelfnoaa
open Go.RowKit
set_option linter.unusedVariables false
set_option linter.unusedSimpArgs false

theorem Try.z_chan (W : World) : (zeroValue 39).run Try.prog W = .ok (.agg #[.int .i64 0, .int .i64 0, .int .i64 0, .int .i64 0, .int .i64 0]) W := by kernel_rfl

namespace GraP
def edge (pn : Nat) (t : Bool) (c : Ch) : Option Edge := if (isP pn c.2.1 && isP pn c.2.2.1) = true then some (if t = true then (c.2.2.1.toNat, c.2.1.toNat) else (c.2.1.toNat, c.2.2.1.toNat)) else none
def edges (pn : Nat) (t : Bool) (L : List Ch) : List Edge := L.filterMap (edge pn t)
def part (pn : Nat) (t : Bool) (L : List Ch) (s k : Nat) : Nat := (edges pn t (L.take k)).foldl (fun m e => if s.testBit e.1 then m ||| 2 ^ e.2 else m) s
theorem part_none {pn : Nat} {t : Bool} {L : List Ch} {s k : Nat} (h : k < L.length) (he : edge pn t L[k] = none) : part pn t L s (k + 1) = part pn t L s k := by
  unfold part edges
  rw [List.take_succ_eq_append_getElem h, List.filterMap_append]
  simp [he]
theorem part_some {pn : Nat} {t : Bool} {L : List Ch} {s k : Nat} {e : Edge} (h : k < L.length) (he : edge pn t L[k] = some e) : part pn t L s (k + 1) = if s.testBit e.1 then part pn t L s k ||| 2 ^ e.2 else part pn t L s k := by
  unfold part edges
  rw [List.take_succ_eq_append_getElem h, List.filterMap_append, List.foldl_append]
  simp [he]
theorem edge_of {pn : Nat} {t : Bool} {k0 k1 k2 k3 k4 : Int} (h : (isP pn k1 && isP pn k2) = true) : ∃ x y : Nat, (if t = true then k2 else k1) = (x : Int) ∧ (if t = true then k1 else k2) = (y : Int) ∧ x < 64 ∧ y < 64 ∧ edge pn t (k0, k1, k2, k3, k4) = some (x, y) := by
  have h' := h
  simp only [isP, Bool.and_eq_true, decide_eq_true_eq] at h'
  cases t with
  | true => exact ⟨k2.toNat, k1.toNat, by simp; omega, by simp; omega, by omega, by omega, by unfold edge; rw [if_pos h]; rfl⟩
  | false => exact ⟨k1.toNat, k2.toNat, by simp; omega, by simp; omega, by omega, by omega, by unfold edge; rw [if_pos h]; rfl⟩
end GraP
theorem Cap_rob {pl : List Value} {bp bt : Nat} {t : Bool} {w : World} (h : GraP.Cap pl bp bt t w) : Hp.Rob (fun _ => False) w (GraP.Cap pl bp bt t) := (RdV_rob h.1).and (RdV_rob h.2)

set_option maxHeartbeats 4000000 in
set_option maxRecDepth 100000 in
theorem gfur (pm : Int) (ps : Option Addr) (pn pc : Nat) (ws : Option Addr) (wn wc : Nat) (hs : Option Addr) (hn hc : Nat) (bp bt : Nat) (t : Bool) (s : Nat) (L : List GraP.Ch) (w : World) (hpn : pn ≤ 9223372036854775807) (hhn : hn ≤ 9223372036854775807) (hl0 : hn = L.length) (hsz : s < 18446744073709551616) (hrg : ∀ c ∈ L, (-9223372036854775808 ≤ c.2.1 ∧ c.2.1 ≤ 9223372036854775807) ∧ (-9223372036854775808 ≤ c.2.2.1 ∧ c.2.2.1 ≤ 9223372036854775807)) (hR : Hp.RdV w hs (GraP.chv L)) (hcap : GraP.Cap [.int .i64 pm, .slice ps pn pc, .slice ws wn wc, .slice hs hn hc] bp bt t w) :
    Calls Try.prog 22 #[.agg #[.int .i64 pm, .slice ps pn pc, .slice ws wn wc, .slice hs hn hc], .int .u64 s, .func (.func 24) #[] #[.pointer (some ⟨bp, 0, none⟩), .pointer (some ⟨bt, 0, none⟩)]] w fun e w' => e = .returned (.int .u64 ((GraP.fur (GraP.edges pn t L) s : Nat) : Int)) ∧ Below w.heap.size w w' := by
  have sh := Hp.Sh.start ((RdV_rob hR).and (Cap_rob hcap))
  have hl := Lib.hid hl0
  have HRG := Lib.hid hrg
  have HE := Lib.hid (fun k0 k1 k2 k3 k4 W h1 h2 hcp => gend pm ps pn pc ws wn wc hs hn hc k0 k1 k2 k3 k4 bp bt t W hpn h1 h2 hcp)
  clear hR hcap hl0 hrg
  go_enter Try.func22, Try.ntmps22
  have tok_bx : True := trivial
  go_wp2_with (first
      | ((have tok := tok_bx); clear tok tok_bx; (first | (with_reducible refine Hp.wpl_box sh ?_ ?_) | (with_reducible refine Hp.wpl_alloc Try.z_chan sh ?_ ?_)); exact rfl; clear sh; (try clear F); go_simp; intro bx w1 sh; have F := sh.facts; (try simp only [Hp.Facts, Hp.CellsAt, Nat.reduceAdd, List.cons_append, List.nil_append] at F))
      | ((with_reducible refine Hp.wpl_box sh ?_ ?_); exact rfl; clear sh; (try clear F); go_simp; intro b w1 sh; have F := sh.facts; (try simp only [Hp.Facts, Hp.CellsAt, Nat.reduceAdd, List.cons_append, List.nil_append] at F))
      | ((with_reducible refine Hp.wpl_alloc Try.z_chan sh ?_ ?_); exact rfl; clear sh; (try clear F); go_simp; intro b w1 sh; have F := sh.facts; (try simp only [Hp.Facts, Hp.CellsAt, Nat.reduceAdd, List.cons_append, List.nil_append] at F))
      | ((with_reducible refine Hp.atl_store ?_ ?_); exact rfl; (first | refine Hp.wp_store 0 sh rfl rfl rfl rfl (by kernel_rfl) (Nat.le_of_ble_eq_true rfl) rfl ?_ | refine Hp.wp_store 1 sh rfl rfl rfl rfl (by kernel_rfl) (Nat.le_of_ble_eq_true rfl) rfl ?_ | refine Hp.wp_store 2 sh rfl rfl rfl rfl (by kernel_rfl) (Nat.le_of_ble_eq_true rfl) rfl ?_ | refine Hp.wp_store 3 sh rfl rfl rfl rfl (by kernel_rfl) (Nat.le_of_ble_eq_true rfl) rfl ?_ | refine Hp.wp_store 4 sh rfl rfl rfl rfl (by kernel_rfl) (Nat.le_of_ble_eq_true rfl) rfl ?_ | refine Hp.wp_store 5 sh rfl rfl rfl rfl (by kernel_rfl) (Nat.le_of_ble_eq_true rfl) rfl ?_ | refine Hp.wp_store 6 sh rfl rfl rfl rfl (by kernel_rfl) (Nat.le_of_ble_eq_true rfl) rfl ?_); clear sh; (try clear F); go_simp; intro w1 sh; have F := sh.facts; (try simp only [Hp.Facts, Hp.CellsAt, Nat.reduceAdd, List.cons_append, List.nil_append] at F))
      | fail)
  go_loopw [7, 17] (fun m i wr => ∃ (k mm : Nat), i = .int .i64 k ∧ m = .int .u64 mm ∧ k ≤ hn ∧ mm < 18446744073709551616 ∧ Hid (mm = GraP.part pn t L s k) ∧ Hp.Sh w wr [(bx, #[.int .i64 pm, .slice ps pn pc, .slice ws wn wc, .slice hs hn hc], 26)] (fun W => Hp.RdV W hs (GraP.chv L) ∧ GraP.Cap [.int .i64 pm, .slice ps pn pc, .slice ws wn wc, .slice hs hn hc] bp bt t W)) (fun _ i _ => hn - (intOf i).toNat)
  case atStart => exact ⟨0, s, rfl, rfl, by omega, hsz, rfl, sh⟩
  case round =>
    clear sh F
    obtain ⟨k, mm, rfl, rfl, hk, hmm, HM, sh⟩ := hrel
    have F := sh.facts; (try simp only [Hp.Facts, Hp.CellsAt, Nat.reduceAdd, List.cons_append, List.nil_append] at F)
    by_cases hlt : k < hn
    · have hlI : (k : Int) < (hn : Int) := by omega
      have g1 : k < L.length := by rw [← hl.out]; exact hlt
      obtain ⟨p, hp, -⟩ := sh.data.1 (by rw [GraP.chv_length]; omega)
      subst hp
      have HCC := Lib.hid (fun W (h : Hp.RdV W (some p) (GraP.chv L)) => GraP.chv_cells h g1)
      have hx := HRG.out _ (List.getElem_mem g1)
      have PN := Lib.hid (fun h => GraP.part_none (pn := pn) (t := t) (s := s) g1 h)
      have PS := Lib.hid (fun e h => GraP.part_some (pn := pn) (t := t) (s := s) (e := e) g1 h)
      generalize L[k] = c at HCC hx PN PS
      obtain ⟨k0, k1, k2, k3, k4⟩ := c
      dsimp only at HCC hx
      clear g1
      obtain ⟨q0, q1, q2, q3, q4⟩ := HCC.out _ sh.data.1
      have HE2 := Lib.hid (fun W hcp => HE.out k0 k1 k2 k3 k4 W hx.1 hx.2 hcp)
      unfold GraP.endV at HE2
      cases hb : (GraP.isP pn k1 && GraP.isP pn k2) with
      | true =>
        obtain ⟨x, y, hx1, hy1, hx2, hy2, hed⟩ := GraP.edge_of (t := t) (k0 := k0) (k3 := k3) (k4 := k4) hb
        rw [hb, hx1, hy1] at HE2
        replace PS := Lib.hid (PS.out _ hed)
        have HT := Lib.hid (GraP.test_bit s x hsz)
        have HS := Lib.hid (GraP.set_bit mm y hmm hy2)
        have hlt2 := GraP.set_lt mm y hmm hy2
        clear hb hx1 hy1 hed
        have tok_bc : True := trivial
        go_wp2_with (first
            | ((have tok := tok_bc); clear tok tok_bc; (first | (with_reducible refine Hp.wpl_box sh ?_ ?_) | (with_reducible refine Hp.wpl_alloc Try.z_chan sh ?_ ?_)); exact rfl; clear sh; (try clear F); go_simp; intro bc w1 sh; have F := sh.facts; (try simp only [Hp.Facts, Hp.CellsAt, Nat.reduceAdd, List.cons_append, List.nil_append] at F))
            | ((with_reducible refine Hp.wpl_box sh ?_ ?_); exact rfl; clear sh; (try clear F); go_simp; intro b w1 sh; have F := sh.facts; (try simp only [Hp.Facts, Hp.CellsAt, Nat.reduceAdd, List.cons_append, List.nil_append] at F))
            | ((with_reducible refine Hp.wpl_alloc Try.z_chan sh ?_ ?_); exact rfl; clear sh; (try clear F); go_simp; intro b w1 sh; have F := sh.facts; (try simp only [Hp.Facts, Hp.CellsAt, Nat.reduceAdd, List.cons_append, List.nil_append] at F))
            | ((with_reducible refine Hp.atl_store ?_ ?_); exact rfl; (first | refine Hp.wp_store 0 sh rfl rfl rfl rfl (by kernel_rfl) (Nat.le_of_ble_eq_true rfl) rfl ?_ | refine Hp.wp_store 1 sh rfl rfl rfl rfl (by kernel_rfl) (Nat.le_of_ble_eq_true rfl) rfl ?_ | refine Hp.wp_store 2 sh rfl rfl rfl rfl (by kernel_rfl) (Nat.le_of_ble_eq_true rfl) rfl ?_ | refine Hp.wp_store 3 sh rfl rfl rfl rfl (by kernel_rfl) (Nat.le_of_ble_eq_true rfl) rfl ?_ | refine Hp.wp_store 4 sh rfl rfl rfl rfl (by kernel_rfl) (Nat.le_of_ble_eq_true rfl) rfl ?_ | refine Hp.wp_store 5 sh rfl rfl rfl rfl (by kernel_rfl) (Nat.le_of_ble_eq_true rfl) rfl ?_ | refine Hp.wp_store 6 sh rfl rfl rfl rfl (by kernel_rfl) (Nat.le_of_ble_eq_true rfl) rfl ?_); clear sh; (try clear F); go_simp; intro w1 sh; have F := sh.facts; (try simp only [Hp.Facts, Hp.CellsAt, Nat.reduceAdd, List.cons_append, List.nil_append] at F))
            | fail)
        go_fit (HE2.out _ sh.data.2)
        rintro e w1 ⟨rfl, hb⟩
        replace sh := sh.call hb; clear hb; (try clear F); have F := sh.facts; (try simp only [Hp.Facts, Hp.CellsAt, Nat.reduceAdd, List.cons_append, List.nil_append] at F)
        go_wp2_with (first
            | ((with_reducible refine Hp.wpl_box sh ?_ ?_); exact rfl; clear sh; (try clear F); go_simp; intro b w1 sh; have F := sh.facts; (try simp only [Hp.Facts, Hp.CellsAt, Nat.reduceAdd, List.cons_append, List.nil_append] at F))
            | ((with_reducible refine Hp.wpl_alloc Try.z_chan sh ?_ ?_); exact rfl; clear sh; (try clear F); go_simp; intro b w1 sh; have F := sh.facts; (try simp only [Hp.Facts, Hp.CellsAt, Nat.reduceAdd, List.cons_append, List.nil_append] at F))
            | ((with_reducible refine Hp.atl_store ?_ ?_); exact rfl; (first | refine Hp.wp_store 0 sh rfl rfl rfl rfl (by kernel_rfl) (Nat.le_of_ble_eq_true rfl) rfl ?_ | refine Hp.wp_store 1 sh rfl rfl rfl rfl (by kernel_rfl) (Nat.le_of_ble_eq_true rfl) rfl ?_ | refine Hp.wp_store 2 sh rfl rfl rfl rfl (by kernel_rfl) (Nat.le_of_ble_eq_true rfl) rfl ?_ | refine Hp.wp_store 3 sh rfl rfl rfl rfl (by kernel_rfl) (Nat.le_of_ble_eq_true rfl) rfl ?_ | refine Hp.wp_store 4 sh rfl rfl rfl rfl (by kernel_rfl) (Nat.le_of_ble_eq_true rfl) rfl ?_ | refine Hp.wp_store 5 sh rfl rfl rfl rfl (by kernel_rfl) (Nat.le_of_ble_eq_true rfl) rfl ?_ | refine Hp.wp_store 6 sh rfl rfl rfl rfl (by kernel_rfl) (Nat.le_of_ble_eq_true rfl) rfl ?_); clear sh; (try clear F); go_simp; intro w1 sh; have F := sh.facts; (try simp only [Hp.Facts, Hp.CellsAt, Nat.reduceAdd, List.cons_append, List.nil_append] at F))
            | fail)
        all_goals rename_i htest
        all_goals go_roundw
        all_goals first
          | (simp [intOf]; omega)
          | (refine ⟨k + 1, mm ||| 2 ^ y, by go_num, by simp only [Int.toNat_natCast, HS.out], by omega, hlt2, ?_, sh.drop1⟩
             rw [PS.out, ← HM.out]; simp only [Int.toNat_natCast, HT.out] at htest; rw [if_pos htest]; rfl)
          | (refine ⟨k + 1, mm, by go_num, rfl, by omega, hmm, ?_, sh.drop1⟩
             rw [PS.out, ← HM.out]; simp only [Int.toNat_natCast, HT.out] at htest; rw [htest]; rfl)
      | false =>
        rw [hb] at HE2
        replace PN := Lib.hid (PN.out (by unfold GraP.edge; rw [if_neg (by rw [hb]; decide)]))
        generalize (if t = true then k2 else k1) = x at HE2
        generalize (if t = true then k1 else k2) = y at HE2
        clear hb
        have tok_bc : True := trivial
        go_wp2_with (first
            | ((have tok := tok_bc); clear tok tok_bc; (first | (with_reducible refine Hp.wpl_box sh ?_ ?_) | (with_reducible refine Hp.wpl_alloc Try.z_chan sh ?_ ?_)); exact rfl; clear sh; (try clear F); go_simp; intro bc w1 sh; have F := sh.facts; (try simp only [Hp.Facts, Hp.CellsAt, Nat.reduceAdd, List.cons_append, List.nil_append] at F))
            | ((with_reducible refine Hp.wpl_box sh ?_ ?_); exact rfl; clear sh; (try clear F); go_simp; intro b w1 sh; have F := sh.facts; (try simp only [Hp.Facts, Hp.CellsAt, Nat.reduceAdd, List.cons_append, List.nil_append] at F))
            | ((with_reducible refine Hp.wpl_alloc Try.z_chan sh ?_ ?_); exact rfl; clear sh; (try clear F); go_simp; intro b w1 sh; have F := sh.facts; (try simp only [Hp.Facts, Hp.CellsAt, Nat.reduceAdd, List.cons_append, List.nil_append] at F))
            | ((with_reducible refine Hp.atl_store ?_ ?_); exact rfl; (first | refine Hp.wp_store 0 sh rfl rfl rfl rfl (by kernel_rfl) (Nat.le_of_ble_eq_true rfl) rfl ?_ | refine Hp.wp_store 1 sh rfl rfl rfl rfl (by kernel_rfl) (Nat.le_of_ble_eq_true rfl) rfl ?_ | refine Hp.wp_store 2 sh rfl rfl rfl rfl (by kernel_rfl) (Nat.le_of_ble_eq_true rfl) rfl ?_ | refine Hp.wp_store 3 sh rfl rfl rfl rfl (by kernel_rfl) (Nat.le_of_ble_eq_true rfl) rfl ?_ | refine Hp.wp_store 4 sh rfl rfl rfl rfl (by kernel_rfl) (Nat.le_of_ble_eq_true rfl) rfl ?_ | refine Hp.wp_store 5 sh rfl rfl rfl rfl (by kernel_rfl) (Nat.le_of_ble_eq_true rfl) rfl ?_ | refine Hp.wp_store 6 sh rfl rfl rfl rfl (by kernel_rfl) (Nat.le_of_ble_eq_true rfl) rfl ?_); clear sh; (try clear F); go_simp; intro w1 sh; have F := sh.facts; (try simp only [Hp.Facts, Hp.CellsAt, Nat.reduceAdd, List.cons_append, List.nil_append] at F))
            | fail)
        go_fit (HE2.out _ sh.data.2)
        rintro e w1 ⟨rfl, hb⟩
        replace sh := sh.call hb; clear hb; (try clear F); have F := sh.facts; (try simp only [Hp.Facts, Hp.CellsAt, Nat.reduceAdd, List.cons_append, List.nil_append] at F)
        go_wp2_with (first
            | ((with_reducible refine Hp.wpl_box sh ?_ ?_); exact rfl; clear sh; (try clear F); go_simp; intro b w1 sh; have F := sh.facts; (try simp only [Hp.Facts, Hp.CellsAt, Nat.reduceAdd, List.cons_append, List.nil_append] at F))
            | ((with_reducible refine Hp.wpl_alloc Try.z_chan sh ?_ ?_); exact rfl; clear sh; (try clear F); go_simp; intro b w1 sh; have F := sh.facts; (try simp only [Hp.Facts, Hp.CellsAt, Nat.reduceAdd, List.cons_append, List.nil_append] at F))
            | ((with_reducible refine Hp.atl_store ?_ ?_); exact rfl; (first | refine Hp.wp_store 0 sh rfl rfl rfl rfl (by kernel_rfl) (Nat.le_of_ble_eq_true rfl) rfl ?_ | refine Hp.wp_store 1 sh rfl rfl rfl rfl (by kernel_rfl) (Nat.le_of_ble_eq_true rfl) rfl ?_ | refine Hp.wp_store 2 sh rfl rfl rfl rfl (by kernel_rfl) (Nat.le_of_ble_eq_true rfl) rfl ?_ | refine Hp.wp_store 3 sh rfl rfl rfl rfl (by kernel_rfl) (Nat.le_of_ble_eq_true rfl) rfl ?_ | refine Hp.wp_store 4 sh rfl rfl rfl rfl (by kernel_rfl) (Nat.le_of_ble_eq_true rfl) rfl ?_ | refine Hp.wp_store 5 sh rfl rfl rfl rfl (by kernel_rfl) (Nat.le_of_ble_eq_true rfl) rfl ?_ | refine Hp.wp_store 6 sh rfl rfl rfl rfl (by kernel_rfl) (Nat.le_of_ble_eq_true rfl) rfl ?_); clear sh; (try clear F); go_simp; intro w1 sh; have F := sh.facts; (try simp only [Hp.Facts, Hp.CellsAt, Nat.reduceAdd, List.cons_append, List.nil_append] at F))
            | fail)
        go_roundw
        case rel => exact ⟨k + 1, mm, by go_num, rfl, by omega, hmm, HM.out.trans PN.out.symm, sh.drop1⟩
        case measure => simp [intOf]; omega
    · obtain rfl : k = hn := by omega
      go_wp2_with (first
          | ((with_reducible refine Hp.wpl_box sh ?_ ?_); exact rfl; clear sh; (try clear F); go_simp; intro b w1 sh; have F := sh.facts; (try simp only [Hp.Facts, Hp.CellsAt, Nat.reduceAdd, List.cons_append, List.nil_append] at F))
          | ((with_reducible refine Hp.wpl_alloc Try.z_chan sh ?_ ?_); exact rfl; clear sh; (try clear F); go_simp; intro b w1 sh; have F := sh.facts; (try simp only [Hp.Facts, Hp.CellsAt, Nat.reduceAdd, List.cons_append, List.nil_append] at F))
          | ((with_reducible refine Hp.atl_store ?_ ?_); exact rfl; (first | refine Hp.wp_store 0 sh rfl rfl rfl rfl (by kernel_rfl) (Nat.le_of_ble_eq_true rfl) rfl ?_ | refine Hp.wp_store 1 sh rfl rfl rfl rfl (by kernel_rfl) (Nat.le_of_ble_eq_true rfl) rfl ?_ | refine Hp.wp_store 2 sh rfl rfl rfl rfl (by kernel_rfl) (Nat.le_of_ble_eq_true rfl) rfl ?_ | refine Hp.wp_store 3 sh rfl rfl rfl rfl (by kernel_rfl) (Nat.le_of_ble_eq_true rfl) rfl ?_ | refine Hp.wp_store 4 sh rfl rfl rfl rfl (by kernel_rfl) (Nat.le_of_ble_eq_true rfl) rfl ?_ | refine Hp.wp_store 5 sh rfl rfl rfl rfl (by kernel_rfl) (Nat.le_of_ble_eq_true rfl) rfl ?_ | refine Hp.wp_store 6 sh rfl rfl rfl rfl (by kernel_rfl) (Nat.le_of_ble_eq_true rfl) rfl ?_); clear sh; (try clear F); go_simp; intro w1 sh; have F := sh.facts; (try simp only [Hp.Facts, Hp.CellsAt, Nat.reduceAdd, List.cons_append, List.nil_append] at F))
          | fail)
      go_ret
      refine ⟨?_, sh.below⟩
      rw [HM.out, GraP.part, hl.out, List.take_length]
      rfl

end Go.Proofs.Ytmdagajbelfnoaa
