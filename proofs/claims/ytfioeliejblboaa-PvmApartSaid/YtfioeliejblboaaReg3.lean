
/-
  The walks of region's New, Len, Get, Set, Take, Lay, Clear, View.
-/
import Derived.Test.YtfioeliejblboaaReg2
namespace Go.Proofs.Ytfioeliejblboaa
open Go.RowKit
set_option linter.unusedVariables false
set_option linter.unusedSimpArgs false

theorem Try.z_u32 (W : World) : (zeroValue 25).run Try.prog W = .ok (.int .u32 0) W := by kernel_rfl
namespace RegP
def getV (n : Nat) (ws : List Int) (b z at' : Int) : Int := if pc n b z at' 1 = 0 then ws.getD (b + at').toNat 0 else 0
def setW (n : Nat) (ws : List Int) (b z at' v : Int) : List Int := if pc n b z at' 1 = 0 then ws.set (b + at').toNat v else ws
def takeW (n : Nat) (ws : List Int) (b z at' k : Int) : List Int := if pc n b z at' k = 0 then (ws.drop (b + at').toNat).take k.toNat else []
def layW (n : Nat) (ws : List Int) (b z at' : Int) (l : List Int) : List Int := if pc n b z at' l.length = 0 then splice ws (b + at').toNat l else ws
def clearW (n : Nat) (ws : List Int) (b z : Int) : List Int := if oc n b z = true then splice ws b.toNat (List.replicate z.toNat 0) else ws
def viewW (n : Nat) (ws : List Int) (b z : Int) : List Int := if oc n b z = true then (ws.drop b.toNat).take z.toNat else []
def occ (n : Nat) (b z : Int) : Int := if oc n b z = true then 0 else 1
theorem RdV_cutA {W : World} {g : Nat} {ws : List Int} (h : Hp.RdV W (some ⟨g, 0, none⟩) (ints ws)) (o l k : Nat) : Hp.RdV W (some (Hp.cutA g o l k)) (ints ((ws.drop (o + l)).take k)) := by
  intro hp
  rw [ints_length, List.length_take, List.length_drop] at hp
  refine ⟨_, rfl, fun i v hv => ?_⟩
  rw [Hp.cutA_pos (by omega)]
  have hi : i < k ∧ o + l + i < ws.length := by
    have := (List.getElem?_eq_some_iff.1 hv).1
    rw [ints_length, List.length_take, List.length_drop] at this
    omega
  have e : (⟨g, o + l, none⟩ : Addr).add i = ⟨g, o + l + i, none⟩ := by
    unfold Addr.add; split
    · rename_i h0; subst h0; rfl
    · rfl
  rw [e]
  have h2 := h.cell (o + l + i) (v := v) (by
    unfold ints at hv ⊢
    rw [List.getElem?_map, List.getElem?_take, if_pos hi.1, List.getElem?_drop] at hv
    rw [List.getElem?_map]; exact hv)
  rw [Hp.add_head] at h2
  exact h2
theorem ints_set (ws : List Int) (i : Nat) (v : Int) : (ints ws).toArray.setIfInBounds i (.int .u32 v) = (ints (ws.set i v)).toArray := by
  unfold ints; rw [List.map_set]; simp
theorem ints_setL (ws : List Int) (i : Nat) (v : Int) : (ints ws).set i (.int .u32 v) = ints (ws.set i v) := by
  unfold ints; rw [List.map_set]
theorem ints_splice (ws l : List Int) (o : Nat) : splice (ints ws) o (ints l) = ints (splice ws o l) := by
  simp [splice, ints, List.map_take, List.map_drop]
theorem ints_rep (k : Nat) : List.replicate k (Value.int .u32 0) = ints (List.replicate k 0) := by simp [ints]
end RegP

def RegP.NewP (n : Nat) (w0 : World) (H : List Hp.Blk) (D : World → Prop) (e : Ending) (w' : World) : Prop := ∃ bm g, e = .returned (.tuple #[.pointer (some ⟨bm, 0, none⟩), .int .i64 0]) ∧ Hp.Sh w0 w' ((g, (ints (List.replicate n 0)).toArray, 25) :: H) (fun W => RegP.MemIs bm g n W ∧ D W)
set_option maxHeartbeats 4000000 in set_option maxRecDepth 100000 in
theorem rnew_no (x : Int) (w : World) (h : x < 1 ∨ 4096 < x) : Calls Try.prog 21 #[.int .i64 x] w fun e w' => e = .returned (.tuple #[.pointer none, .int .i64 1]) ∧ Below w.heap.size w w' := by
  have sh : Hp.Sh w w [] (fun _ => True) := Hp.Sh.start (fun _ _ => trivial)
  by_cases h1 : x < 1
  · clear h
    go_enter Try.func21, Try.ntmps21
    go_wp2_with (first
        | ((with_reducible refine Hp.wpl_box sh ?_ ?_); exact rfl; clear sh; (try clear F); go_simp; intro b w1 sh; have F := sh.facts; (try simp only [Hp.Facts, Hp.CellsAt, Nat.reduceAdd, List.cons_append, List.nil_append] at F))
        | ((with_reducible refine Hp.atl_store ?_ ?_); exact rfl; (first | refine Hp.wp_store 0 sh rfl rfl rfl rfl (by kernel_rfl) (Nat.le_of_ble_eq_true rfl) rfl ?_ | refine Hp.wp_store 1 sh rfl rfl rfl rfl (by kernel_rfl) (Nat.le_of_ble_eq_true rfl) rfl ?_ | refine Hp.wp_store 2 sh rfl rfl rfl rfl (by kernel_rfl) (Nat.le_of_ble_eq_true rfl) rfl ?_ | refine Hp.wp_store 3 sh rfl rfl rfl rfl (by kernel_rfl) (Nat.le_of_ble_eq_true rfl) rfl ?_ | refine Hp.wp_store 4 sh rfl rfl rfl rfl (by kernel_rfl) (Nat.le_of_ble_eq_true rfl) rfl ?_ | refine Hp.wp_store 5 sh rfl rfl rfl rfl (by kernel_rfl) (Nat.le_of_ble_eq_true rfl) rfl ?_ | refine Hp.wp_store 6 sh rfl rfl rfl rfl (by kernel_rfl) (Nat.le_of_ble_eq_true rfl) rfl ?_); clear sh; (try clear F); go_simp; intro w1 sh; have F := sh.facts; (try simp only [Hp.Facts, Hp.CellsAt, Nat.reduceAdd, List.cons_append, List.nil_append] at F))
        | fail)
    go_ret2
    exact ⟨rfl, sh.below⟩
  · have h2 : 4096 < x := by omega
    clear h
    go_enter Try.func21, Try.ntmps21
    go_wp2_with (first
        | ((with_reducible refine Hp.wpl_box sh ?_ ?_); exact rfl; clear sh; (try clear F); go_simp; intro b w1 sh; have F := sh.facts; (try simp only [Hp.Facts, Hp.CellsAt, Nat.reduceAdd, List.cons_append, List.nil_append] at F))
        | ((with_reducible refine Hp.atl_store ?_ ?_); exact rfl; (first | refine Hp.wp_store 0 sh rfl rfl rfl rfl (by kernel_rfl) (Nat.le_of_ble_eq_true rfl) rfl ?_ | refine Hp.wp_store 1 sh rfl rfl rfl rfl (by kernel_rfl) (Nat.le_of_ble_eq_true rfl) rfl ?_ | refine Hp.wp_store 2 sh rfl rfl rfl rfl (by kernel_rfl) (Nat.le_of_ble_eq_true rfl) rfl ?_ | refine Hp.wp_store 3 sh rfl rfl rfl rfl (by kernel_rfl) (Nat.le_of_ble_eq_true rfl) rfl ?_ | refine Hp.wp_store 4 sh rfl rfl rfl rfl (by kernel_rfl) (Nat.le_of_ble_eq_true rfl) rfl ?_ | refine Hp.wp_store 5 sh rfl rfl rfl rfl (by kernel_rfl) (Nat.le_of_ble_eq_true rfl) rfl ?_ | refine Hp.wp_store 6 sh rfl rfl rfl rfl (by kernel_rfl) (Nat.le_of_ble_eq_true rfl) rfl ?_); clear sh; (try clear F); go_simp; intro w1 sh; have F := sh.facts; (try simp only [Hp.Facts, Hp.CellsAt, Nat.reduceAdd, List.cons_append, List.nil_append] at F))
        | fail)
    go_ret2
    exact ⟨rfl, sh.below⟩
set_option maxHeartbeats 4000000 in set_option maxRecDepth 100000 in
theorem rnew_yes (n : Nat) (w0 w : World) (H : List Hp.Blk) (D : World → Prop) (sh : Hp.Sh w0 w H D) (h1 : 1 ≤ n) (h2 : n ≤ 4096) : Calls Try.prog 21 #[.int .i64 n] w fun e w' => RegP.NewP n w0 H D e w' := by
  have h3 : ¬ ((n : Int) < 1) := by omega
  have h4 : ¬ ((4096 : Int) < (n : Int)) := by omega
  go_enter Try.func21, Try.ntmps21
  have F := sh.facts; (try simp only [Hp.Facts, Hp.CellsAt, Nat.reduceAdd, List.cons_append, List.nil_append] at F)
  have tok_bm : True := trivial
  go_wp2_with (first
      | ((with_reducible refine Hp.atl_make ?_ ?_); exact rfl; (refine Hp.wp_make (m := n) (kl := .i64) (kc := .i64) n Try.i_u32 Try.underlying22 (by decide) sh rfl rfl (Nat.le_refl _) (by omega) ?_); clear sh; (try clear F); intro g w1 sh; go_simp; rw [RegP.made_ints] at sh; have F := sh.facts; (try simp only [Hp.Facts, Hp.CellsAt, Nat.reduceAdd, List.cons_append, List.nil_append] at F))
      | ((have tok := tok_bm); clear tok tok_bm; (first | (with_reducible refine Hp.wpl_box sh ?_ ?_)); exact rfl; clear sh; (try clear F); go_simp; intro bm w1 sh; have F := sh.facts; (try simp only [Hp.Facts, Hp.CellsAt, Nat.reduceAdd, List.cons_append, List.nil_append] at F))
      | ((with_reducible refine Hp.wpl_box sh ?_ ?_); exact rfl; clear sh; (try clear F); go_simp; intro b w1 sh; have F := sh.facts; (try simp only [Hp.Facts, Hp.CellsAt, Nat.reduceAdd, List.cons_append, List.nil_append] at F))
      | ((with_reducible refine Hp.atl_store ?_ ?_); exact rfl; (first | refine Hp.wp_store 0 sh rfl rfl rfl rfl (by kernel_rfl) (Nat.le_of_ble_eq_true rfl) rfl ?_ | refine Hp.wp_store 1 sh rfl rfl rfl rfl (by kernel_rfl) (Nat.le_of_ble_eq_true rfl) rfl ?_ | refine Hp.wp_store 2 sh rfl rfl rfl rfl (by kernel_rfl) (Nat.le_of_ble_eq_true rfl) rfl ?_ | refine Hp.wp_store 3 sh rfl rfl rfl rfl (by kernel_rfl) (Nat.le_of_ble_eq_true rfl) rfl ?_ | refine Hp.wp_store 4 sh rfl rfl rfl rfl (by kernel_rfl) (Nat.le_of_ble_eq_true rfl) rfl ?_ | refine Hp.wp_store 5 sh rfl rfl rfl rfl (by kernel_rfl) (Nat.le_of_ble_eq_true rfl) rfl ?_ | refine Hp.wp_store 6 sh rfl rfl rfl rfl (by kernel_rfl) (Nat.le_of_ble_eq_true rfl) rfl ?_); clear sh; (try clear F); go_simp; intro w1 sh; have F := sh.facts; (try simp only [Hp.Facts, Hp.CellsAt, Nat.reduceAdd, List.cons_append, List.nil_append] at F))
      | fail)
  go_ret2
  exact ⟨bm, g, rfl, sh.freeze1 (fun i v h => by simpa using h)⟩

set_option maxHeartbeats 4000000 in set_option maxRecDepth 100000 in
theorem rget (bm g n : Nat) (ws : List Int) (b z r : Int) (ks : Option Addr) (kn kc : Nat) (f ag : Int) (at' : Int) (w : World) (hn : n ≤ 1099511627776) (hb : -9223372036854775808 ≤ b ∧ b ≤ 9223372036854775807) (hz : -9223372036854775808 ≤ z ∧ z ≤ 9223372036854775807) (hat : -9223372036854775808 ≤ at' ∧ at' ≤ 9223372036854775807) (hM : RegP.MemIs bm g n w) (hws : ws.length = n) (hR : Hp.RdV w (some ⟨g, 0, none⟩) (ints ws)) :
    Calls Try.prog 24 #[.pointer (some ⟨bm, 0, none⟩), .agg #[.int .i64 b, .int .i64 z, .int .i64 r, .slice ks kn kc, .int .i64 f, .int .i64 ag], .int .i64 at'] w fun e w' => e = .returned (.tuple #[.int .u32 (RegP.getV n ws b z at'), .int .i64 (RegP.pc n b z at' 1)]) ∧ Below w.heap.size w w' := by
  have sh := Hp.Sh.start (hM.rob.and (RdV_rob hR))
  by_cases hp : RegP.pc n b z at' 1 = 0
  · obtain ⟨b, z, a, k, rfl, rfl, rfl, h1, h2, h3, h4⟩ := RegP.pc_zero hp
    have HP := Lib.hid (fun W h => rpiece_yes bm g n b z r ks kn kc f ag a 1 W hn h h2 h3 (by omega))
    rw [Hp.cutA_pos (by omega)] at HP
    have HC := Lib.hid (fun W (h : Hp.RdV W (some ⟨g, 0, none⟩) (ints ws)) => (by have := Hp.RdV.cell h (b + a) (ints_get (by omega)); rw [Hp.add_head] at this; exact this : W.cell? ⟨g, b + a, none⟩ = some (.int .u32 (ws[b + a]'(by omega)))))
    rw [hp, show RegP.getV n ws b z a = ws[b + a]'(by omega) by unfold RegP.getV; rw [if_pos hp, show ((b : Int) + (a : Int)).toNat = b + a by omega]; simp [show b + a < ws.length by omega]]
    generalize ws[b + a]'(by omega) = x at HC ⊢
    clear hM hR hp h1 hws
    go_enter Try.func24, Try.ntmps24
    have tok_bp : True := trivial
    go_wp2_with (first
        | ((have tok := tok_bp); clear tok tok_bp; (first | (with_reducible refine Hp.wpl_box sh ?_ ?_)); exact rfl; clear sh; (try clear F); go_simp; intro bp w1 sh; have F := sh.facts; (try simp only [Hp.Facts, Hp.CellsAt, Nat.reduceAdd, List.cons_append, List.nil_append] at F); (try clear cx); (try (first | (have cx := (HC.out _ ((sh.data)).2)) | (have cx := (HC.out _ ((sh.data.2)).2)) | (have cx := (HC.out _ ((sh.data.2.2)).2)) | (have cx := (HC.out _ ((sh.data.2.2.2)).2)) | (have cx := (HC.out _ ((sh.data.2.2.2.2)).2)))))
        | ((with_reducible refine Hp.wpl_box sh ?_ ?_); exact rfl; clear sh; (try clear F); go_simp; intro b w1 sh; have F := sh.facts; (try simp only [Hp.Facts, Hp.CellsAt, Nat.reduceAdd, List.cons_append, List.nil_append] at F); (try clear cx); (try (first | (have cx := (HC.out _ ((sh.data)).2)) | (have cx := (HC.out _ ((sh.data.2)).2)) | (have cx := (HC.out _ ((sh.data.2.2)).2)) | (have cx := (HC.out _ ((sh.data.2.2.2)).2)) | (have cx := (HC.out _ ((sh.data.2.2.2.2)).2)))))
        | ((with_reducible refine Hp.atl_store ?_ ?_); exact rfl; (first | refine Hp.wp_store 0 sh rfl rfl rfl rfl (by kernel_rfl) (Nat.le_of_ble_eq_true rfl) rfl ?_ | refine Hp.wp_store 1 sh rfl rfl rfl rfl (by kernel_rfl) (Nat.le_of_ble_eq_true rfl) rfl ?_ | refine Hp.wp_store 2 sh rfl rfl rfl rfl (by kernel_rfl) (Nat.le_of_ble_eq_true rfl) rfl ?_ | refine Hp.wp_store 3 sh rfl rfl rfl rfl (by kernel_rfl) (Nat.le_of_ble_eq_true rfl) rfl ?_ | refine Hp.wp_store 4 sh rfl rfl rfl rfl (by kernel_rfl) (Nat.le_of_ble_eq_true rfl) rfl ?_ | refine Hp.wp_store 5 sh rfl rfl rfl rfl (by kernel_rfl) (Nat.le_of_ble_eq_true rfl) rfl ?_ | refine Hp.wp_store 6 sh rfl rfl rfl rfl (by kernel_rfl) (Nat.le_of_ble_eq_true rfl) rfl ?_); clear sh; (try clear F); go_simp; intro w1 sh; have F := sh.facts; (try simp only [Hp.Facts, Hp.CellsAt, Nat.reduceAdd, List.cons_append, List.nil_append] at F); (try clear cx); (try (first | (have cx := (HC.out _ ((sh.data)).2)) | (have cx := (HC.out _ ((sh.data.2)).2)) | (have cx := (HC.out _ ((sh.data.2.2)).2)) | (have cx := (HC.out _ ((sh.data.2.2.2)).2)) | (have cx := (HC.out _ ((sh.data.2.2.2.2)).2)))))
        | fail)
    go_fit (HP.out _ sh.data.1)
    rintro e w1 ⟨rfl, hb⟩
    replace sh := sh.call hb; clear hb; (try clear F); have F := sh.facts; (try simp only [Hp.Facts, Hp.CellsAt, Nat.reduceAdd, List.cons_append, List.nil_append] at F); (try clear cx); (try (first | (have cx := (HC.out _ ((sh.data)).2)) | (have cx := (HC.out _ ((sh.data.2)).2)) | (have cx := (HC.out _ ((sh.data.2.2)).2)) | (have cx := (HC.out _ ((sh.data.2.2.2)).2)) | (have cx := (HC.out _ ((sh.data.2.2.2.2)).2))))
    have cx := HC.out _ sh.data.2
    go_wp2_with (first
        | ((with_reducible refine Hp.wpl_box sh ?_ ?_); exact rfl; clear sh; (try clear F); go_simp; intro b w1 sh; have F := sh.facts; (try simp only [Hp.Facts, Hp.CellsAt, Nat.reduceAdd, List.cons_append, List.nil_append] at F); (try clear cx); (try (first | (have cx := (HC.out _ ((sh.data)).2)) | (have cx := (HC.out _ ((sh.data.2)).2)) | (have cx := (HC.out _ ((sh.data.2.2)).2)) | (have cx := (HC.out _ ((sh.data.2.2.2)).2)) | (have cx := (HC.out _ ((sh.data.2.2.2.2)).2)))))
        | ((with_reducible refine Hp.atl_store ?_ ?_); exact rfl; (first | refine Hp.wp_store 0 sh rfl rfl rfl rfl (by kernel_rfl) (Nat.le_of_ble_eq_true rfl) rfl ?_ | refine Hp.wp_store 1 sh rfl rfl rfl rfl (by kernel_rfl) (Nat.le_of_ble_eq_true rfl) rfl ?_ | refine Hp.wp_store 2 sh rfl rfl rfl rfl (by kernel_rfl) (Nat.le_of_ble_eq_true rfl) rfl ?_ | refine Hp.wp_store 3 sh rfl rfl rfl rfl (by kernel_rfl) (Nat.le_of_ble_eq_true rfl) rfl ?_ | refine Hp.wp_store 4 sh rfl rfl rfl rfl (by kernel_rfl) (Nat.le_of_ble_eq_true rfl) rfl ?_ | refine Hp.wp_store 5 sh rfl rfl rfl rfl (by kernel_rfl) (Nat.le_of_ble_eq_true rfl) rfl ?_ | refine Hp.wp_store 6 sh rfl rfl rfl rfl (by kernel_rfl) (Nat.le_of_ble_eq_true rfl) rfl ?_); clear sh; (try clear F); go_simp; intro w1 sh; have F := sh.facts; (try simp only [Hp.Facts, Hp.CellsAt, Nat.reduceAdd, List.cons_append, List.nil_append] at F); (try clear cx); (try (first | (have cx := (HC.out _ ((sh.data)).2)) | (have cx := (HC.out _ ((sh.data.2)).2)) | (have cx := (HC.out _ ((sh.data.2.2)).2)) | (have cx := (HC.out _ ((sh.data.2.2.2)).2)) | (have cx := (HC.out _ ((sh.data.2.2.2.2)).2)))))
        | fail)
    go_ret2
    exact ⟨rfl, sh.below⟩
  · have HP := Lib.hid (fun W h => rpiece_no bm g n b z r ks kn kc f ag at' 1 _ W hn hb hz hat (by omega) h rfl hp)
    have h9 : (RegP.pc n b z at' 1 == 0) = false := by simpa using hp
    rw [show RegP.getV n ws b z at' = 0 by unfold RegP.getV; rw [if_neg hp]]
    generalize RegP.pc n b z at' 1 = c at HP h9 ⊢
    clear hM hR hp
    have h10 : (c != 0) = true := by simpa using h9
    go_enter Try.func24, Try.ntmps24
    have tok_bp : True := trivial
    go_wp2_with (first
        | ((have tok := tok_bp); clear tok tok_bp; (first | (with_reducible refine Hp.wpl_box sh ?_ ?_)); exact rfl; clear sh; (try clear F); go_simp; intro bp w1 sh; have F := sh.facts; (try simp only [Hp.Facts, Hp.CellsAt, Nat.reduceAdd, List.cons_append, List.nil_append] at F); (try clear cx); (try (first | (have cx := (HC.out _ ((sh.data)).2)) | (have cx := (HC.out _ ((sh.data.2)).2)) | (have cx := (HC.out _ ((sh.data.2.2)).2)) | (have cx := (HC.out _ ((sh.data.2.2.2)).2)) | (have cx := (HC.out _ ((sh.data.2.2.2.2)).2)))))
        | ((with_reducible refine Hp.wpl_box sh ?_ ?_); exact rfl; clear sh; (try clear F); go_simp; intro b w1 sh; have F := sh.facts; (try simp only [Hp.Facts, Hp.CellsAt, Nat.reduceAdd, List.cons_append, List.nil_append] at F); (try clear cx); (try (first | (have cx := (HC.out _ ((sh.data)).2)) | (have cx := (HC.out _ ((sh.data.2)).2)) | (have cx := (HC.out _ ((sh.data.2.2)).2)) | (have cx := (HC.out _ ((sh.data.2.2.2)).2)) | (have cx := (HC.out _ ((sh.data.2.2.2.2)).2)))))
        | ((with_reducible refine Hp.atl_store ?_ ?_); exact rfl; (first | refine Hp.wp_store 0 sh rfl rfl rfl rfl (by kernel_rfl) (Nat.le_of_ble_eq_true rfl) rfl ?_ | refine Hp.wp_store 1 sh rfl rfl rfl rfl (by kernel_rfl) (Nat.le_of_ble_eq_true rfl) rfl ?_ | refine Hp.wp_store 2 sh rfl rfl rfl rfl (by kernel_rfl) (Nat.le_of_ble_eq_true rfl) rfl ?_ | refine Hp.wp_store 3 sh rfl rfl rfl rfl (by kernel_rfl) (Nat.le_of_ble_eq_true rfl) rfl ?_ | refine Hp.wp_store 4 sh rfl rfl rfl rfl (by kernel_rfl) (Nat.le_of_ble_eq_true rfl) rfl ?_ | refine Hp.wp_store 5 sh rfl rfl rfl rfl (by kernel_rfl) (Nat.le_of_ble_eq_true rfl) rfl ?_ | refine Hp.wp_store 6 sh rfl rfl rfl rfl (by kernel_rfl) (Nat.le_of_ble_eq_true rfl) rfl ?_); clear sh; (try clear F); go_simp; intro w1 sh; have F := sh.facts; (try simp only [Hp.Facts, Hp.CellsAt, Nat.reduceAdd, List.cons_append, List.nil_append] at F); (try clear cx); (try (first | (have cx := (HC.out _ ((sh.data)).2)) | (have cx := (HC.out _ ((sh.data.2)).2)) | (have cx := (HC.out _ ((sh.data.2.2)).2)) | (have cx := (HC.out _ ((sh.data.2.2.2)).2)) | (have cx := (HC.out _ ((sh.data.2.2.2.2)).2)))))
        | fail)
    go_fit (HP.out _ sh.data.1)
    rintro e w1 ⟨rfl, hb⟩
    replace sh := sh.call hb; clear hb; (try clear F); have F := sh.facts; (try simp only [Hp.Facts, Hp.CellsAt, Nat.reduceAdd, List.cons_append, List.nil_append] at F); (try clear cx); (try (first | (have cx := (HC.out _ ((sh.data)).2)) | (have cx := (HC.out _ ((sh.data.2)).2)) | (have cx := (HC.out _ ((sh.data.2.2)).2)) | (have cx := (HC.out _ ((sh.data.2.2.2)).2)) | (have cx := (HC.out _ ((sh.data.2.2.2.2)).2))))
    go_wp2_with (first
        | ((with_reducible refine Hp.wpl_box sh ?_ ?_); exact rfl; clear sh; (try clear F); go_simp; intro b w1 sh; have F := sh.facts; (try simp only [Hp.Facts, Hp.CellsAt, Nat.reduceAdd, List.cons_append, List.nil_append] at F); (try clear cx); (try (first | (have cx := (HC.out _ ((sh.data)).2)) | (have cx := (HC.out _ ((sh.data.2)).2)) | (have cx := (HC.out _ ((sh.data.2.2)).2)) | (have cx := (HC.out _ ((sh.data.2.2.2)).2)) | (have cx := (HC.out _ ((sh.data.2.2.2.2)).2)))))
        | ((with_reducible refine Hp.atl_store ?_ ?_); exact rfl; (first | refine Hp.wp_store 0 sh rfl rfl rfl rfl (by kernel_rfl) (Nat.le_of_ble_eq_true rfl) rfl ?_ | refine Hp.wp_store 1 sh rfl rfl rfl rfl (by kernel_rfl) (Nat.le_of_ble_eq_true rfl) rfl ?_ | refine Hp.wp_store 2 sh rfl rfl rfl rfl (by kernel_rfl) (Nat.le_of_ble_eq_true rfl) rfl ?_ | refine Hp.wp_store 3 sh rfl rfl rfl rfl (by kernel_rfl) (Nat.le_of_ble_eq_true rfl) rfl ?_ | refine Hp.wp_store 4 sh rfl rfl rfl rfl (by kernel_rfl) (Nat.le_of_ble_eq_true rfl) rfl ?_ | refine Hp.wp_store 5 sh rfl rfl rfl rfl (by kernel_rfl) (Nat.le_of_ble_eq_true rfl) rfl ?_ | refine Hp.wp_store 6 sh rfl rfl rfl rfl (by kernel_rfl) (Nat.le_of_ble_eq_true rfl) rfl ?_); clear sh; (try clear F); go_simp; intro w1 sh; have F := sh.facts; (try simp only [Hp.Facts, Hp.CellsAt, Nat.reduceAdd, List.cons_append, List.nil_append] at F); (try clear cx); (try (first | (have cx := (HC.out _ ((sh.data)).2)) | (have cx := (HC.out _ ((sh.data.2)).2)) | (have cx := (HC.out _ ((sh.data.2.2)).2)) | (have cx := (HC.out _ ((sh.data.2.2.2)).2)) | (have cx := (HC.out _ ((sh.data.2.2.2.2)).2)))))
        | fail)
    go_ret2
    exact ⟨rfl, sh.below⟩

def RegP.SetP (g : Nat) (c : Int) (ws' : List Int) (w0 : World) (H : List Hp.Blk) (D : World → Prop) (e : Ending) (w' : World) : Prop := e = .returned (.int .i64 c) ∧ Hp.Sh w0 w' ((g, (ints ws').toArray, 25) :: H) D
set_option maxHeartbeats 4000000 in set_option maxRecDepth 100000 in
theorem rset (bm g n : Nat) (ws : List Int) (b z r : Int) (ks : Option Addr) (kn kc : Nat) (f ag : Int) (at' v : Int) (w0 w : World) (H : List Hp.Blk) (D : World → Prop) (sh : Hp.Sh w0 w ((g, (ints ws).toArray, 25) :: H) D) (hM : ∀ W, D W → RegP.MemIs bm g n W) (hn : n ≤ 1099511627776) (hws : ws.length = n) (hb : -9223372036854775808 ≤ b ∧ b ≤ 9223372036854775807) (hz : -9223372036854775808 ≤ z ∧ z ≤ 9223372036854775807) (hat : -9223372036854775808 ≤ at' ∧ at' ≤ 9223372036854775807) :
    Calls Try.prog 27 #[.pointer (some ⟨bm, 0, none⟩), .agg #[.int .i64 b, .int .i64 z, .int .i64 r, .slice ks kn kc, .int .i64 f, .int .i64 ag], .int .i64 at', .int .u32 v] w fun e w' => RegP.SetP g (RegP.pc n b z at' 1) (RegP.setW n ws b z at' v) w0 H D e w' := by
  by_cases hp : RegP.pc n b z at' 1 = 0
  · obtain ⟨b, z, a, k, rfl, rfl, rfl, h1, h2, h3, h4⟩ := RegP.pc_zero hp
    have HP := Lib.hid (fun W h => rpiece_yes bm g n b z r ks kn kc f ag a 1 W hn h h2 h3 (by omega))
    rw [Hp.cutA_pos (by omega)] at HP
    rw [hp, show RegP.setW n ws b z a v = ws.set (b + a) v by unfold RegP.setW; rw [if_pos hp, show ((b : Int) + (a : Int)).toNat = b + a by omega]]
    have HLT := Lib.hid (by rw [ints_length]; omega : b + a < (ints ws).length)
    have HM := Lib.hid hM
    clear hM hp h1 hws
    go_enter Try.func27, Try.ntmps27
    have F := sh.facts; (try simp only [Hp.Facts, Hp.CellsAt, Nat.reduceAdd, List.cons_append, List.nil_append] at F)
    have tok_bp : True := trivial
    go_wp2_with (first
        | ((have tok := tok_bp); clear tok tok_bp; (first | (with_reducible refine Hp.wpl_box sh ?_ ?_)); exact rfl; clear sh; (try clear F); go_simp; intro bp w1 sh; have F := sh.facts; (try simp only [Hp.Facts, Hp.CellsAt, Nat.reduceAdd, List.cons_append, List.nil_append] at F))
        | ((with_reducible refine Hp.wpl_box sh ?_ ?_); exact rfl; clear sh; (try clear F); go_simp; intro b w1 sh; have F := sh.facts; (try simp only [Hp.Facts, Hp.CellsAt, Nat.reduceAdd, List.cons_append, List.nil_append] at F))
        | ((with_reducible refine Hp.atl_store ?_ ?_); exact rfl; (first | refine Hp.wp_store 0 sh rfl rfl rfl rfl (by kernel_rfl) (Nat.le_of_ble_eq_true rfl) rfl ?_ | refine Hp.wp_store 1 sh rfl rfl rfl rfl (by kernel_rfl) (Nat.le_of_ble_eq_true rfl) rfl ?_ | refine Hp.wp_store 2 sh rfl rfl rfl rfl (by kernel_rfl) (Nat.le_of_ble_eq_true rfl) rfl ?_ | refine Hp.wp_store 3 sh rfl rfl rfl rfl (by kernel_rfl) (Nat.le_of_ble_eq_true rfl) rfl ?_ | refine Hp.wp_store 4 sh rfl rfl rfl rfl (by kernel_rfl) (Nat.le_of_ble_eq_true rfl) rfl ?_ | refine Hp.wp_store 5 sh rfl rfl rfl rfl (by kernel_rfl) (Nat.le_of_ble_eq_true rfl) rfl ?_ | refine Hp.wp_store 6 sh rfl rfl rfl rfl (by kernel_rfl) (Nat.le_of_ble_eq_true rfl) rfl ?_); clear sh; (try clear F); go_simp; intro w1 sh; have F := sh.facts; (try simp only [Hp.Facts, Hp.CellsAt, Nat.reduceAdd, List.cons_append, List.nil_append] at F))
        | fail)
    go_fit (HP.out _ (HM.out _ sh.data))
    rintro e w1 ⟨rfl, hb⟩
    replace sh := sh.call hb; clear hb; (try clear F); have F := sh.facts; (try simp only [Hp.Facts, Hp.CellsAt, Nat.reduceAdd, List.cons_append, List.nil_append] at F)
    go_wp2_with (first
        | ((with_reducible refine Hp.atl_store ?_ ?_); exact rfl; (refine Hp.wp_store 1 sh rfl rfl rfl rfl (by kernel_rfl) (by show b + a + 1 ≤ _; rw [List.size_toArray]; exact HLT.out) rfl ?_); clear sh; (try clear F); go_simp; intro w1 sh; simp only [RegP.ints_set, RegP.ints_setL] at sh; have F := sh.facts; (try simp only [Hp.Facts, Hp.CellsAt, Nat.reduceAdd, List.cons_append, List.nil_append] at F))
        | ((with_reducible refine Hp.wpl_box sh ?_ ?_); exact rfl; clear sh; (try clear F); go_simp; intro b w1 sh; have F := sh.facts; (try simp only [Hp.Facts, Hp.CellsAt, Nat.reduceAdd, List.cons_append, List.nil_append] at F))
        | ((with_reducible refine Hp.atl_store ?_ ?_); exact rfl; (first | refine Hp.wp_store 0 sh rfl rfl rfl rfl (by kernel_rfl) (Nat.le_of_ble_eq_true rfl) rfl ?_ | refine Hp.wp_store 1 sh rfl rfl rfl rfl (by kernel_rfl) (Nat.le_of_ble_eq_true rfl) rfl ?_ | refine Hp.wp_store 2 sh rfl rfl rfl rfl (by kernel_rfl) (Nat.le_of_ble_eq_true rfl) rfl ?_ | refine Hp.wp_store 3 sh rfl rfl rfl rfl (by kernel_rfl) (Nat.le_of_ble_eq_true rfl) rfl ?_ | refine Hp.wp_store 4 sh rfl rfl rfl rfl (by kernel_rfl) (Nat.le_of_ble_eq_true rfl) rfl ?_ | refine Hp.wp_store 5 sh rfl rfl rfl rfl (by kernel_rfl) (Nat.le_of_ble_eq_true rfl) rfl ?_ | refine Hp.wp_store 6 sh rfl rfl rfl rfl (by kernel_rfl) (Nat.le_of_ble_eq_true rfl) rfl ?_); clear sh; (try clear F); go_simp; intro w1 sh; have F := sh.facts; (try simp only [Hp.Facts, Hp.CellsAt, Nat.reduceAdd, List.cons_append, List.nil_append] at F))
        | fail)
    go_ret
    exact ⟨rfl, sh.drop1⟩
  · have HP := Lib.hid (fun W h => rpiece_no bm g n b z r ks kn kc f ag at' 1 _ W hn hb hz hat (by omega) h rfl hp)
    have h10 : (RegP.pc n b z at' 1 != 0) = true := by simpa using hp
    rw [show RegP.setW n ws b z at' v = ws by unfold RegP.setW; rw [if_neg hp]]
    generalize RegP.pc n b z at' 1 = c at HP h10 ⊢
    have HM := Lib.hid hM
    clear hM hp hws
    go_enter Try.func27, Try.ntmps27
    have F := sh.facts; (try simp only [Hp.Facts, Hp.CellsAt, Nat.reduceAdd, List.cons_append, List.nil_append] at F)
    have tok_bp : True := trivial
    go_wp2_with (first
        | ((have tok := tok_bp); clear tok tok_bp; (first | (with_reducible refine Hp.wpl_box sh ?_ ?_)); exact rfl; clear sh; (try clear F); go_simp; intro bp w1 sh; have F := sh.facts; (try simp only [Hp.Facts, Hp.CellsAt, Nat.reduceAdd, List.cons_append, List.nil_append] at F))
        | ((with_reducible refine Hp.wpl_box sh ?_ ?_); exact rfl; clear sh; (try clear F); go_simp; intro b w1 sh; have F := sh.facts; (try simp only [Hp.Facts, Hp.CellsAt, Nat.reduceAdd, List.cons_append, List.nil_append] at F))
        | ((with_reducible refine Hp.atl_store ?_ ?_); exact rfl; (first | refine Hp.wp_store 0 sh rfl rfl rfl rfl (by kernel_rfl) (Nat.le_of_ble_eq_true rfl) rfl ?_ | refine Hp.wp_store 1 sh rfl rfl rfl rfl (by kernel_rfl) (Nat.le_of_ble_eq_true rfl) rfl ?_ | refine Hp.wp_store 2 sh rfl rfl rfl rfl (by kernel_rfl) (Nat.le_of_ble_eq_true rfl) rfl ?_ | refine Hp.wp_store 3 sh rfl rfl rfl rfl (by kernel_rfl) (Nat.le_of_ble_eq_true rfl) rfl ?_ | refine Hp.wp_store 4 sh rfl rfl rfl rfl (by kernel_rfl) (Nat.le_of_ble_eq_true rfl) rfl ?_ | refine Hp.wp_store 5 sh rfl rfl rfl rfl (by kernel_rfl) (Nat.le_of_ble_eq_true rfl) rfl ?_ | refine Hp.wp_store 6 sh rfl rfl rfl rfl (by kernel_rfl) (Nat.le_of_ble_eq_true rfl) rfl ?_); clear sh; (try clear F); go_simp; intro w1 sh; have F := sh.facts; (try simp only [Hp.Facts, Hp.CellsAt, Nat.reduceAdd, List.cons_append, List.nil_append] at F))
        | fail)
    go_fit (HP.out _ (HM.out _ sh.data))
    rintro e w1 ⟨rfl, hb⟩
    replace sh := sh.call hb; clear hb; (try clear F); have F := sh.facts; (try simp only [Hp.Facts, Hp.CellsAt, Nat.reduceAdd, List.cons_append, List.nil_append] at F)
    go_wp2_with (first
        | ((with_reducible refine Hp.wpl_box sh ?_ ?_); exact rfl; clear sh; (try clear F); go_simp; intro b w1 sh; have F := sh.facts; (try simp only [Hp.Facts, Hp.CellsAt, Nat.reduceAdd, List.cons_append, List.nil_append] at F))
        | ((with_reducible refine Hp.atl_store ?_ ?_); exact rfl; (first | refine Hp.wp_store 0 sh rfl rfl rfl rfl (by kernel_rfl) (Nat.le_of_ble_eq_true rfl) rfl ?_ | refine Hp.wp_store 1 sh rfl rfl rfl rfl (by kernel_rfl) (Nat.le_of_ble_eq_true rfl) rfl ?_ | refine Hp.wp_store 2 sh rfl rfl rfl rfl (by kernel_rfl) (Nat.le_of_ble_eq_true rfl) rfl ?_ | refine Hp.wp_store 3 sh rfl rfl rfl rfl (by kernel_rfl) (Nat.le_of_ble_eq_true rfl) rfl ?_ | refine Hp.wp_store 4 sh rfl rfl rfl rfl (by kernel_rfl) (Nat.le_of_ble_eq_true rfl) rfl ?_ | refine Hp.wp_store 5 sh rfl rfl rfl rfl (by kernel_rfl) (Nat.le_of_ble_eq_true rfl) rfl ?_ | refine Hp.wp_store 6 sh rfl rfl rfl rfl (by kernel_rfl) (Nat.le_of_ble_eq_true rfl) rfl ?_); clear sh; (try clear F); go_simp; intro w1 sh; have F := sh.facts; (try simp only [Hp.Facts, Hp.CellsAt, Nat.reduceAdd, List.cons_append, List.nil_append] at F))
        | fail)
    go_ret
    exact ⟨rfl, sh.drop1⟩

set_option maxHeartbeats 4000000 in set_option maxRecDepth 100000 in
theorem rview (bm g n : Nat) (ws : List Int) (b z r : Int) (ks : Option Addr) (kn kc : Nat) (f ag : Int) (w : World) (hn : n ≤ 1073741824) (hb : -9223372036854775808 ≤ b ∧ b ≤ 9223372036854775807) (hz : -9223372036854775808 ≤ z ∧ z ≤ 9223372036854775807) (hM : RegP.MemIs bm g n w) (hws : ws.length = n) (hR : Hp.RdV w (some ⟨g, 0, none⟩) (ints ws)) :
    Calls Try.prog 14 #[.pointer (some ⟨bm, 0, none⟩), .agg #[.int .i64 b, .int .i64 z, .int .i64 r, .slice ks kn kc, .int .i64 f, .int .i64 ag]] w fun e w' => RegP.RowP (RegP.viewW n ws b z) w e w' := by
  have sh := Hp.Sh.start (hM.rob.and (RdV_rob hR))
  cases hp : RegP.oc n b z with
  | true =>
    obtain ⟨b, z, rfl, rfl, h2, h3⟩ := RegP.oc_nat hp
    have HP := Lib.hid (fun W h => rof_yes bm g n b z r ks kn kc f ag W (by omega) h h2 h3)
    have HC := Lib.hid (fun W (h : Hp.RdV W (some ⟨g, 0, none⟩) (ints ws)) => rcopied (some ⟨g, b, none⟩) ((ws.drop b).take z) z z W (by rw [List.length_take, List.length_drop]; omega) (by omega) (by have := RegP.RdV_cutA h b 0 z; rw [Hp.cutA_pos (by omega)] at this; exact this))
    rw [show RegP.viewW n ws b z = (ws.drop b).take z by unfold RegP.viewW; rw [if_pos hp, Int.toNat_natCast, Int.toNat_natCast]]
    generalize (ws.drop b).take z = vs at HC ⊢
    clear hM hR hp hws
    go_enter Try.func14, Try.ntmps14
    have tok_bp : True := trivial
    go_wp2_with (first
        | ((have tok := tok_bp); clear tok tok_bp; (first | (with_reducible refine Hp.wpl_box sh ?_ ?_)); exact rfl; clear sh; (try clear F); go_simp; intro bp w1 sh; have F := sh.facts; (try simp only [Hp.Facts, Hp.CellsAt, Nat.reduceAdd, List.cons_append, List.nil_append] at F))
        | ((with_reducible refine Hp.wpl_box sh ?_ ?_); exact rfl; clear sh; (try clear F); go_simp; intro b w1 sh; have F := sh.facts; (try simp only [Hp.Facts, Hp.CellsAt, Nat.reduceAdd, List.cons_append, List.nil_append] at F))
        | ((with_reducible refine Hp.atl_store ?_ ?_); exact rfl; (first | refine Hp.wp_store 0 sh rfl rfl rfl rfl (by kernel_rfl) (Nat.le_of_ble_eq_true rfl) rfl ?_ | refine Hp.wp_store 1 sh rfl rfl rfl rfl (by kernel_rfl) (Nat.le_of_ble_eq_true rfl) rfl ?_ | refine Hp.wp_store 2 sh rfl rfl rfl rfl (by kernel_rfl) (Nat.le_of_ble_eq_true rfl) rfl ?_ | refine Hp.wp_store 3 sh rfl rfl rfl rfl (by kernel_rfl) (Nat.le_of_ble_eq_true rfl) rfl ?_ | refine Hp.wp_store 4 sh rfl rfl rfl rfl (by kernel_rfl) (Nat.le_of_ble_eq_true rfl) rfl ?_ | refine Hp.wp_store 5 sh rfl rfl rfl rfl (by kernel_rfl) (Nat.le_of_ble_eq_true rfl) rfl ?_ | refine Hp.wp_store 6 sh rfl rfl rfl rfl (by kernel_rfl) (Nat.le_of_ble_eq_true rfl) rfl ?_); clear sh; (try clear F); go_simp; intro w1 sh; have F := sh.facts; (try simp only [Hp.Facts, Hp.CellsAt, Nat.reduceAdd, List.cons_append, List.nil_append] at F))
        | fail)
    go_fit (HP.out _ sh.data.1)
    rintro e w1 ⟨rfl, hb⟩
    replace sh := sh.call hb; clear hb; (try clear F); have F := sh.facts; (try simp only [Hp.Facts, Hp.CellsAt, Nat.reduceAdd, List.cons_append, List.nil_append] at F)
    go_wp2_with (first
        | ((with_reducible refine Hp.wpl_box sh ?_ ?_); exact rfl; clear sh; (try clear F); go_simp; intro b w1 sh; have F := sh.facts; (try simp only [Hp.Facts, Hp.CellsAt, Nat.reduceAdd, List.cons_append, List.nil_append] at F))
        | ((with_reducible refine Hp.atl_store ?_ ?_); exact rfl; (first | refine Hp.wp_store 0 sh rfl rfl rfl rfl (by kernel_rfl) (Nat.le_of_ble_eq_true rfl) rfl ?_ | refine Hp.wp_store 1 sh rfl rfl rfl rfl (by kernel_rfl) (Nat.le_of_ble_eq_true rfl) rfl ?_ | refine Hp.wp_store 2 sh rfl rfl rfl rfl (by kernel_rfl) (Nat.le_of_ble_eq_true rfl) rfl ?_ | refine Hp.wp_store 3 sh rfl rfl rfl rfl (by kernel_rfl) (Nat.le_of_ble_eq_true rfl) rfl ?_ | refine Hp.wp_store 4 sh rfl rfl rfl rfl (by kernel_rfl) (Nat.le_of_ble_eq_true rfl) rfl ?_ | refine Hp.wp_store 5 sh rfl rfl rfl rfl (by kernel_rfl) (Nat.le_of_ble_eq_true rfl) rfl ?_ | refine Hp.wp_store 6 sh rfl rfl rfl rfl (by kernel_rfl) (Nat.le_of_ble_eq_true rfl) rfl ?_); clear sh; (try clear F); go_simp; intro w1 sh; have F := sh.facts; (try simp only [Hp.Facts, Hp.CellsAt, Nat.reduceAdd, List.cons_append, List.nil_append] at F))
        | fail)
    go_fit (HC.out _ sh.data.2); rintro e w2 ⟨s, c, rfl, hnw, hno, hr, hb⟩
    have HN := Lib.hid (And.intro hnw hno)
    have HB := Lib.hid (below_step sh.below hb)
    have HS := Lib.hid sh.below.size
    have HR2 := Lib.hid hr
    clear hnw hno hr hb sh F
    go_wp2_with (first
        | ((with_reducible refine Hp.wpl_box sh ?_ ?_); exact rfl; clear sh; (try clear F); go_simp; intro b w1 sh; have F := sh.facts; (try simp only [Hp.Facts, Hp.CellsAt, Nat.reduceAdd, List.cons_append, List.nil_append] at F))
        | ((with_reducible refine Hp.atl_store ?_ ?_); exact rfl; (first | refine Hp.wp_store 0 sh rfl rfl rfl rfl (by kernel_rfl) (Nat.le_of_ble_eq_true rfl) rfl ?_ | refine Hp.wp_store 1 sh rfl rfl rfl rfl (by kernel_rfl) (Nat.le_of_ble_eq_true rfl) rfl ?_ | refine Hp.wp_store 2 sh rfl rfl rfl rfl (by kernel_rfl) (Nat.le_of_ble_eq_true rfl) rfl ?_ | refine Hp.wp_store 3 sh rfl rfl rfl rfl (by kernel_rfl) (Nat.le_of_ble_eq_true rfl) rfl ?_ | refine Hp.wp_store 4 sh rfl rfl rfl rfl (by kernel_rfl) (Nat.le_of_ble_eq_true rfl) rfl ?_ | refine Hp.wp_store 5 sh rfl rfl rfl rfl (by kernel_rfl) (Nat.le_of_ble_eq_true rfl) rfl ?_ | refine Hp.wp_store 6 sh rfl rfl rfl rfl (by kernel_rfl) (Nat.le_of_ble_eq_true rfl) rfl ?_); clear sh; (try clear F); go_simp; intro w1 sh; have F := sh.facts; (try simp only [Hp.Facts, Hp.CellsAt, Nat.reduceAdd, List.cons_append, List.nil_append] at F))
        | fail)
    go_ret
    exact ⟨s, c, rfl, fun p hp => Nat.le_trans HS.out (HN.out.1 p hp), HN.out.2, HR2.out, HB.out⟩
  | false =>
    have HP := Lib.hid (fun W h => rof_no bm g n b z r ks kn kc f ag W (by omega) hb hz h hp)
    rw [show RegP.viewW n ws b z = [] by unfold RegP.viewW; rw [if_neg (by rw [hp]; decide)]]
    clear hM hR hp
    go_enter Try.func14, Try.ntmps14
    have tok_bp : True := trivial
    go_wp2_with (first
        | ((have tok := tok_bp); clear tok tok_bp; (first | (with_reducible refine Hp.wpl_box sh ?_ ?_)); exact rfl; clear sh; (try clear F); go_simp; intro bp w1 sh; have F := sh.facts; (try simp only [Hp.Facts, Hp.CellsAt, Nat.reduceAdd, List.cons_append, List.nil_append] at F))
        | ((with_reducible refine Hp.wpl_box sh ?_ ?_); exact rfl; clear sh; (try clear F); go_simp; intro b w1 sh; have F := sh.facts; (try simp only [Hp.Facts, Hp.CellsAt, Nat.reduceAdd, List.cons_append, List.nil_append] at F))
        | ((with_reducible refine Hp.atl_store ?_ ?_); exact rfl; (first | refine Hp.wp_store 0 sh rfl rfl rfl rfl (by kernel_rfl) (Nat.le_of_ble_eq_true rfl) rfl ?_ | refine Hp.wp_store 1 sh rfl rfl rfl rfl (by kernel_rfl) (Nat.le_of_ble_eq_true rfl) rfl ?_ | refine Hp.wp_store 2 sh rfl rfl rfl rfl (by kernel_rfl) (Nat.le_of_ble_eq_true rfl) rfl ?_ | refine Hp.wp_store 3 sh rfl rfl rfl rfl (by kernel_rfl) (Nat.le_of_ble_eq_true rfl) rfl ?_ | refine Hp.wp_store 4 sh rfl rfl rfl rfl (by kernel_rfl) (Nat.le_of_ble_eq_true rfl) rfl ?_ | refine Hp.wp_store 5 sh rfl rfl rfl rfl (by kernel_rfl) (Nat.le_of_ble_eq_true rfl) rfl ?_ | refine Hp.wp_store 6 sh rfl rfl rfl rfl (by kernel_rfl) (Nat.le_of_ble_eq_true rfl) rfl ?_); clear sh; (try clear F); go_simp; intro w1 sh; have F := sh.facts; (try simp only [Hp.Facts, Hp.CellsAt, Nat.reduceAdd, List.cons_append, List.nil_append] at F))
        | fail)
    go_fit (HP.out _ sh.data.1)
    rintro e w1 ⟨rfl, hb⟩
    replace sh := sh.call hb; clear hb; (try clear F); have F := sh.facts; (try simp only [Hp.Facts, Hp.CellsAt, Nat.reduceAdd, List.cons_append, List.nil_append] at F)
    go_wp2_with (first
        | ((with_reducible refine Hp.wpl_box sh ?_ ?_); exact rfl; clear sh; (try clear F); go_simp; intro b w1 sh; have F := sh.facts; (try simp only [Hp.Facts, Hp.CellsAt, Nat.reduceAdd, List.cons_append, List.nil_append] at F))
        | ((with_reducible refine Hp.atl_store ?_ ?_); exact rfl; (first | refine Hp.wp_store 0 sh rfl rfl rfl rfl (by kernel_rfl) (Nat.le_of_ble_eq_true rfl) rfl ?_ | refine Hp.wp_store 1 sh rfl rfl rfl rfl (by kernel_rfl) (Nat.le_of_ble_eq_true rfl) rfl ?_ | refine Hp.wp_store 2 sh rfl rfl rfl rfl (by kernel_rfl) (Nat.le_of_ble_eq_true rfl) rfl ?_ | refine Hp.wp_store 3 sh rfl rfl rfl rfl (by kernel_rfl) (Nat.le_of_ble_eq_true rfl) rfl ?_ | refine Hp.wp_store 4 sh rfl rfl rfl rfl (by kernel_rfl) (Nat.le_of_ble_eq_true rfl) rfl ?_ | refine Hp.wp_store 5 sh rfl rfl rfl rfl (by kernel_rfl) (Nat.le_of_ble_eq_true rfl) rfl ?_ | refine Hp.wp_store 6 sh rfl rfl rfl rfl (by kernel_rfl) (Nat.le_of_ble_eq_true rfl) rfl ?_); clear sh; (try clear F); go_simp; intro w1 sh; have F := sh.facts; (try simp only [Hp.Facts, Hp.CellsAt, Nat.reduceAdd, List.cons_append, List.nil_append] at F))
        | fail)
    go_ret
    exact ⟨none, 0, rfl, (fun p h => by cases h), fun _ => ⟨rfl, rfl⟩, Hp.RdV.nil _ _, sh.below⟩

set_option maxHeartbeats 4000000 in set_option maxRecDepth 100000 in
theorem rlay (bm g n : Nat) (ws : List Int) (b z r : Int) (ks : Option Addr) (kn kc : Nat) (f ag : Int) (at' : Int) (ls : Option Addr) (l : List Int) (ln lc : Nat) (w0 w : World) (H : List Hp.Blk) (D : World → Prop) (sh : Hp.Sh w0 w ((g, (ints ws).toArray, 25) :: H) D) (hM : ∀ W, D W → RegP.MemIs bm g n W) (hn : n ≤ 1099511627776) (hws : ws.length = n) (hb : -9223372036854775808 ≤ b ∧ b ≤ 9223372036854775807) (hz : -9223372036854775808 ≤ z ∧ z ≤ 9223372036854775807) (hat : -9223372036854775808 ≤ at' ∧ at' ≤ 9223372036854775807) (hl0 : ln = l.length) (hln : ln ≤ 9223372036854775807) (hL : ∀ W, D W → Hp.RdV W ls (ints l)) :
    Calls Try.prog 20 #[.pointer (some ⟨bm, 0, none⟩), .agg #[.int .i64 b, .int .i64 z, .int .i64 r, .slice ks kn kc, .int .i64 f, .int .i64 ag], .int .i64 at', .slice ls ln lc] w fun e w' => RegP.SetP g (RegP.pc n b z at' l.length) (RegP.layW n ws b z at' l) w0 H D e w' := by
  have HL := Lib.hid hl0
  unfold RegP.layW
  rw [← hl0]
  clear hl0
  by_cases hp : RegP.pc n b z at' ln = 0
  · obtain ⟨b, z, a, k, rfl, rfl, rfl, hk, h2, h3, h4⟩ := RegP.pc_zero hp
    obtain rfl : ln = k := by omega
    clear hk
    have HP := Lib.hid (fun W h => rpiece_yes bm g n b z r ks kn kc f ag a ln W hn h h2 h3 h4)
    rw [hp, if_pos rfl, show ((b : Int) + (a : Int)).toNat = b + a by omega]
    have HLT := Lib.hid (by rw [ints_length]; omega : b + a + ln ≤ (ints ws).length)
    have HCA := Lib.hid (fun h => Hp.cutA_pos (g := g) (o := b) (l := a) (k := ln) h)
    generalize Hp.cutA g b a ln = q at HP HCA
    have HM := Lib.hid hM
    have HL2 := Lib.hid hL
    clear hM hp hws hL
    go_enter Try.func20, Try.ntmps20
    have F := sh.facts; (try simp only [Hp.Facts, Hp.CellsAt, Nat.reduceAdd, List.cons_append, List.nil_append] at F)
    have tok_bp : True := trivial
    go_wp2_with (first
        | ((have tok := tok_bp); clear tok tok_bp; (first | (with_reducible refine Hp.wpl_box sh ?_ ?_)); exact rfl; clear sh; (try clear F); go_simp; intro bp w1 sh; have F := sh.facts; (try simp only [Hp.Facts, Hp.CellsAt, Nat.reduceAdd, List.cons_append, List.nil_append] at F))
        | ((with_reducible refine Hp.wpl_box sh ?_ ?_); exact rfl; clear sh; (try clear F); go_simp; intro b w1 sh; have F := sh.facts; (try simp only [Hp.Facts, Hp.CellsAt, Nat.reduceAdd, List.cons_append, List.nil_append] at F))
        | ((with_reducible refine Hp.atl_store ?_ ?_); exact rfl; (first | refine Hp.wp_store 0 sh rfl rfl rfl rfl (by kernel_rfl) (Nat.le_of_ble_eq_true rfl) rfl ?_ | refine Hp.wp_store 1 sh rfl rfl rfl rfl (by kernel_rfl) (Nat.le_of_ble_eq_true rfl) rfl ?_ | refine Hp.wp_store 2 sh rfl rfl rfl rfl (by kernel_rfl) (Nat.le_of_ble_eq_true rfl) rfl ?_ | refine Hp.wp_store 3 sh rfl rfl rfl rfl (by kernel_rfl) (Nat.le_of_ble_eq_true rfl) rfl ?_ | refine Hp.wp_store 4 sh rfl rfl rfl rfl (by kernel_rfl) (Nat.le_of_ble_eq_true rfl) rfl ?_ | refine Hp.wp_store 5 sh rfl rfl rfl rfl (by kernel_rfl) (Nat.le_of_ble_eq_true rfl) rfl ?_ | refine Hp.wp_store 6 sh rfl rfl rfl rfl (by kernel_rfl) (Nat.le_of_ble_eq_true rfl) rfl ?_); clear sh; (try clear F); go_simp; intro w1 sh; have F := sh.facts; (try simp only [Hp.Facts, Hp.CellsAt, Nat.reduceAdd, List.cons_append, List.nil_append] at F))
        | fail)
    go_fit (HP.out _ (HM.out _ sh.data))
    rintro e w1 ⟨rfl, hb⟩
    replace sh := sh.call hb; clear hb; (try clear F); have F := sh.facts; (try simp only [Hp.Facts, Hp.CellsAt, Nat.reduceAdd, List.cons_append, List.nil_append] at F)
    go_wp2_with (first
        | ((with_reducible refine Hp.atl_copy 23 ?_ ?_); exact rfl; (refine Hp.wp_copy (off := b + a) Try.underlying22 Try.s_u32 sh 1 rfl rfl rfl (ints l) (by rw [ints_length, ← HL.out]; exact (Nat.min_self ln).symm) (fun h => by rw [HCA.out (by rw [ints_length, ← HL.out] at h; exact h)]) (HL2.out _ sh.data) (by have := HLT.out; rw [ints_length, ← HL.out]; simpa using this) ints_one ?_); clear sh F; intro w1 sh; (rw [show splice (ints ws).toArray.toList (b + a) (ints l) = ints (splice ws (b + a) l) from RegP.ints_splice _ _ _] at sh); go_simp)
        | ((with_reducible refine Hp.wpl_box sh ?_ ?_); exact rfl; clear sh; (try clear F); go_simp; intro b w1 sh; have F := sh.facts; (try simp only [Hp.Facts, Hp.CellsAt, Nat.reduceAdd, List.cons_append, List.nil_append] at F))
        | ((with_reducible refine Hp.atl_store ?_ ?_); exact rfl; (first | refine Hp.wp_store 0 sh rfl rfl rfl rfl (by kernel_rfl) (Nat.le_of_ble_eq_true rfl) rfl ?_ | refine Hp.wp_store 1 sh rfl rfl rfl rfl (by kernel_rfl) (Nat.le_of_ble_eq_true rfl) rfl ?_ | refine Hp.wp_store 2 sh rfl rfl rfl rfl (by kernel_rfl) (Nat.le_of_ble_eq_true rfl) rfl ?_ | refine Hp.wp_store 3 sh rfl rfl rfl rfl (by kernel_rfl) (Nat.le_of_ble_eq_true rfl) rfl ?_ | refine Hp.wp_store 4 sh rfl rfl rfl rfl (by kernel_rfl) (Nat.le_of_ble_eq_true rfl) rfl ?_ | refine Hp.wp_store 5 sh rfl rfl rfl rfl (by kernel_rfl) (Nat.le_of_ble_eq_true rfl) rfl ?_ | refine Hp.wp_store 6 sh rfl rfl rfl rfl (by kernel_rfl) (Nat.le_of_ble_eq_true rfl) rfl ?_); clear sh; (try clear F); go_simp; intro w1 sh; have F := sh.facts; (try simp only [Hp.Facts, Hp.CellsAt, Nat.reduceAdd, List.cons_append, List.nil_append] at F))
        | fail)
    go_ret
    exact ⟨rfl, sh.drop1⟩
  · have HP := Lib.hid (fun W h => rpiece_no bm g n b z r ks kn kc f ag at' ln _ W hn hb hz hat (by omega) h rfl hp)
    have h10 : (RegP.pc n b z at' ln != 0) = true := by simpa using hp
    rw [if_neg hp]
    generalize RegP.pc n b z at' ln = c at HP h10 ⊢
    have HM := Lib.hid hM
    clear hM hp hws hL
    go_enter Try.func20, Try.ntmps20
    have F := sh.facts; (try simp only [Hp.Facts, Hp.CellsAt, Nat.reduceAdd, List.cons_append, List.nil_append] at F)
    have tok_bp : True := trivial
    go_wp2_with (first
        | ((have tok := tok_bp); clear tok tok_bp; (first | (with_reducible refine Hp.wpl_box sh ?_ ?_)); exact rfl; clear sh; (try clear F); go_simp; intro bp w1 sh; have F := sh.facts; (try simp only [Hp.Facts, Hp.CellsAt, Nat.reduceAdd, List.cons_append, List.nil_append] at F))
        | ((with_reducible refine Hp.wpl_box sh ?_ ?_); exact rfl; clear sh; (try clear F); go_simp; intro b w1 sh; have F := sh.facts; (try simp only [Hp.Facts, Hp.CellsAt, Nat.reduceAdd, List.cons_append, List.nil_append] at F))
        | ((with_reducible refine Hp.atl_store ?_ ?_); exact rfl; (first | refine Hp.wp_store 0 sh rfl rfl rfl rfl (by kernel_rfl) (Nat.le_of_ble_eq_true rfl) rfl ?_ | refine Hp.wp_store 1 sh rfl rfl rfl rfl (by kernel_rfl) (Nat.le_of_ble_eq_true rfl) rfl ?_ | refine Hp.wp_store 2 sh rfl rfl rfl rfl (by kernel_rfl) (Nat.le_of_ble_eq_true rfl) rfl ?_ | refine Hp.wp_store 3 sh rfl rfl rfl rfl (by kernel_rfl) (Nat.le_of_ble_eq_true rfl) rfl ?_ | refine Hp.wp_store 4 sh rfl rfl rfl rfl (by kernel_rfl) (Nat.le_of_ble_eq_true rfl) rfl ?_ | refine Hp.wp_store 5 sh rfl rfl rfl rfl (by kernel_rfl) (Nat.le_of_ble_eq_true rfl) rfl ?_ | refine Hp.wp_store 6 sh rfl rfl rfl rfl (by kernel_rfl) (Nat.le_of_ble_eq_true rfl) rfl ?_); clear sh; (try clear F); go_simp; intro w1 sh; have F := sh.facts; (try simp only [Hp.Facts, Hp.CellsAt, Nat.reduceAdd, List.cons_append, List.nil_append] at F))
        | fail)
    go_fit (HP.out _ (HM.out _ sh.data))
    rintro e w1 ⟨rfl, hb⟩
    replace sh := sh.call hb; clear hb; (try clear F); have F := sh.facts; (try simp only [Hp.Facts, Hp.CellsAt, Nat.reduceAdd, List.cons_append, List.nil_append] at F)
    go_wp2_with (first
        | ((with_reducible refine Hp.wpl_box sh ?_ ?_); exact rfl; clear sh; (try clear F); go_simp; intro b w1 sh; have F := sh.facts; (try simp only [Hp.Facts, Hp.CellsAt, Nat.reduceAdd, List.cons_append, List.nil_append] at F))
        | ((with_reducible refine Hp.atl_store ?_ ?_); exact rfl; (first | refine Hp.wp_store 0 sh rfl rfl rfl rfl (by kernel_rfl) (Nat.le_of_ble_eq_true rfl) rfl ?_ | refine Hp.wp_store 1 sh rfl rfl rfl rfl (by kernel_rfl) (Nat.le_of_ble_eq_true rfl) rfl ?_ | refine Hp.wp_store 2 sh rfl rfl rfl rfl (by kernel_rfl) (Nat.le_of_ble_eq_true rfl) rfl ?_ | refine Hp.wp_store 3 sh rfl rfl rfl rfl (by kernel_rfl) (Nat.le_of_ble_eq_true rfl) rfl ?_ | refine Hp.wp_store 4 sh rfl rfl rfl rfl (by kernel_rfl) (Nat.le_of_ble_eq_true rfl) rfl ?_ | refine Hp.wp_store 5 sh rfl rfl rfl rfl (by kernel_rfl) (Nat.le_of_ble_eq_true rfl) rfl ?_ | refine Hp.wp_store 6 sh rfl rfl rfl rfl (by kernel_rfl) (Nat.le_of_ble_eq_true rfl) rfl ?_); clear sh; (try clear F); go_simp; intro w1 sh; have F := sh.facts; (try simp only [Hp.Facts, Hp.CellsAt, Nat.reduceAdd, List.cons_append, List.nil_append] at F))
        | fail)
    go_ret
    exact ⟨rfl, sh.drop1⟩

end Go.Proofs.Ytfioeliejblboaa
