
/-
  The walks of Sets, of the closures of Fits and May, and of these.
-/
import Derived.Test.YtedcnoajadnhnaaEvRun
import Derived.Test.YtedcnoajadnhnaaQryPlain
namespace Go.Proofs.Ytedcnoajadnhnaa
open Go.RowKit
set_option linter.unusedVariables false
set_option linter.unusedSimpArgs false

namespace QryP
def qc (q : Qy) : List Value := [.int .u64 q.1, .int .u64 q.2.1, .int .i64 q.2.2.1, .int .i64 q.2.2.2.1, .int .u64 q.2.2.2.2.1, .int .u64 q.2.2.2.2.2.1, .int .i64 q.2.2.2.2.2.2]
def bc (b : Bk) : List Value := [.int .i64 b.1, .int .i64 b.2.1, .int .u64 b.2.2.1, .int .i64 b.2.2.2.1, .int .i64 b.2.2.2.2.1, .int .u64 b.2.2.2.2.2.1, .int .u64 b.2.2.2.2.2.2]
theorem bc_len (b : Bk) : (bc b).length = 7 := rfl
theorem cells (n : Nat) {W : World} {g : Nat} {vs : List Value} (h : Hp.RdV W (some ⟨g, 0, none⟩) vs) (hl : vs.length = n) : ∀ j v, vs[j]? = some v → W.cell? ⟨g, j, none⟩ = some v := fun j v hv => by
  have := h.cell j hv; rwa [Hp.add_head] at this
theorem q_cells {W : World} {g : Nat} {f u lo hi ps ks mo : Int} (h : Hp.RdV W (some ⟨g, 0, none⟩) [.int .u64 f, .int .u64 u, .int .i64 lo, .int .i64 hi, .int .u64 ps, .int .u64 ks, .int .i64 mo]) : W.cell? ⟨g, 0, none⟩ = some (.int .u64 f) ∧ W.cell? ⟨g, 1, none⟩ = some (.int .u64 u) ∧ W.cell? ⟨g, 2, none⟩ = some (.int .i64 lo) ∧ W.cell? ⟨g, 3, none⟩ = some (.int .i64 hi) ∧ W.cell? ⟨g, 4, none⟩ = some (.int .u64 ps) ∧ W.cell? ⟨g, 5, none⟩ = some (.int .u64 ks) ∧ W.cell? ⟨g, 6, none⟩ = some (.int .i64 mo) :=
  ⟨cells 7 h rfl 0 _ rfl, cells 7 h rfl 1 _ rfl, cells 7 h rfl 2 _ rfl, cells 7 h rfl 3 _ rfl, cells 7 h rfl 4 _ rfl, cells 7 h rfl 5 _ rfl, cells 7 h rfl 6 _ rfl⟩
theorem b_cells {W : World} {g : Nat} {at_ mn fs lw hg bp bk : Int} (h : Hp.RdV W (some ⟨g, 0, none⟩) [.int .i64 at_, .int .i64 mn, .int .u64 fs, .int .i64 lw, .int .i64 hg, .int .u64 bp, .int .u64 bk]) : W.cell? ⟨g, 0, none⟩ = some (.int .i64 at_) ∧ W.cell? ⟨g, 1, none⟩ = some (.int .i64 mn) ∧ W.cell? ⟨g, 2, none⟩ = some (.int .u64 fs) ∧ W.cell? ⟨g, 3, none⟩ = some (.int .i64 lw) ∧ W.cell? ⟨g, 4, none⟩ = some (.int .i64 hg) ∧ W.cell? ⟨g, 5, none⟩ = some (.int .u64 bp) ∧ W.cell? ⟨g, 6, none⟩ = some (.int .u64 bk) :=
  ⟨cells 7 h rfl 0 _ rfl, cells 7 h rfl 1 _ rfl, cells 7 h rfl 2 _ rfl, cells 7 h rfl 3 _ rfl, cells 7 h rfl 4 _ rfl, cells 7 h rfl 5 _ rfl, cells 7 h rfl 6 _ rfl⟩
theorem e_cells {W : World} {g : Nat} {s t p k a b : Int} (h : Hp.RdV W (some ⟨g, 0, none⟩) [.int .u64 s, .int .i64 t, .int .i64 p, .int .i64 k, .int .i64 a, .int .i64 b]) : W.cell? ⟨g, 0, none⟩ = some (.int .u64 s) ∧ W.cell? ⟨g, 1, none⟩ = some (.int .i64 t) ∧ W.cell? ⟨g, 2, none⟩ = some (.int .i64 p) ∧ W.cell? ⟨g, 3, none⟩ = some (.int .i64 k) ∧ W.cell? ⟨g, 4, none⟩ = some (.int .i64 a) ∧ W.cell? ⟨g, 5, none⟩ = some (.int .i64 b) :=
  ⟨cells 6 h rfl 0 _ rfl, cells 6 h rfl 1 _ rfl, cells 6 h rfl 2 _ rfl, cells 6 h rfl 3 _ rfl, cells 6 h rfl 4 _ rfl, cells 6 h rfl 5 _ rfl⟩
theorem wrap_u {x : Int} (h1 : 0 ≤ x) (h2 : x ≤ 18446744073709551615) : IntKind.u64.wrap x = x := by simp [IntKind.wrap, IntKind.bits, IntKind.signed]; omega
theorem shl1 : ∀ n : Fin 64, IntKind.u64.wrap (1 * 2 ^ n.val) = 2 ^ n.val := by decide +kernel
theorem shl1' : ∀ n : Fin 64, (2 : Int) ^ n.val % 18446744073709551616 = 2 ^ n.val := by decide +kernel
end QryP

set_option maxHeartbeats 4000000 in
set_option maxRecDepth 100000 in
theorem qsets (s t p k a b : Int) (w : World) (hs : 0 ≤ s ∧ s ≤ 18446744073709551615) (ht : -9223372036854775808 ≤ t ∧ t ≤ 9223372036854775807) (hp : -9223372036854775808 ≤ p ∧ p ≤ 9223372036854775807) (hk : -9223372036854775808 ≤ k ∧ k ≤ 9223372036854775807) (ha : -9223372036854775808 ≤ a ∧ a ≤ 9223372036854775807) (hb : -9223372036854775808 ≤ b ∧ b ≤ 9223372036854775807) : Calls Try.prog 27 #[.agg #[.int .u64 s, .int .i64 t, .int .i64 p, .int .i64 k, .int .i64 a, .int .i64 b]] w fun e w' => e = .returned (.tuple #[.int .u64 (QryP.partS p), .int .u64 (QryP.kindS k)]) ∧ Below w.heap.size w w' := by
  have sh : Hp.Sh w w [] (fun _ => True) := Hp.Sh.start (fun _ _ => trivial)
  have P1 := Lib.hid (show QryP.partS p = if -1 ≤ p ∧ p ≤ 31 then 2 ^ (p + 1).toNat else 0 from rfl)
  have P2 := Lib.hid (show QryP.kindS k = if 1 ≤ k ∧ k ≤ 8 then 2 ^ k.toNat else 0 from rfl)
  generalize QryP.partS p = x at P1 ⊢
  generalize QryP.kindS k = y at P2 ⊢
  have ret : ∀ a b c d : Int, a = c → b = d → Ending.returned (.tuple #[.int .u64 a, .int .u64 b]) = .returned (.tuple #[.int .u64 c, .int .u64 d]) := by intro a b c d h1 h2; rw [h1, h2]
  have RT := Lib.hid ret
  clear ret
  by_cases g1 : -1 ≤ p ∧ p ≤ 31
  · have x0 : x = 2 ^ (p + 1).toNat := by rw [P1.out, if_pos g1]
    obtain ⟨g3, g4⟩ := g1
    have g5 : p < 32 := by omega
    have w1 : IntKind.u64.wrap (p + 1) = p + 1 := QryP.wrap_u (by omega) (by omega)
    have w2 : p + 1 < 64 := by omega
    have w3 : 0 ≤ p + 1 := by omega
    have w4 := QryP.shl1 ⟨(p + 1).toNat, by omega⟩
    have w5 := QryP.shl1' ⟨(p + 1).toNat, by omega⟩
    dsimp only at w4 w5
    have X0 := Lib.hid x0
    clear x0
    by_cases g2 : 1 ≤ k ∧ k ≤ 8
    · have y0 : y = 2 ^ k.toNat := by rw [P2.out, if_pos g2]
      obtain ⟨g6, g7⟩ := g2
      have v1 : IntKind.u64.wrap k = k := QryP.wrap_u (by omega) (by omega)
      have v2 : k < 64 := by omega
      have v3 : 0 ≤ k := by omega
      have v4 := QryP.shl1 ⟨k.toNat, by omega⟩
      have v5 := QryP.shl1' ⟨k.toNat, by omega⟩
      dsimp only at v4 v5
      have Y0 := Lib.hid y0
      clear y0
      go_enter Try.func27, Try.ntmps27
      have tok_bx : True := trivial
      go_wp2_with (first
          | ((have tok := tok_bx); clear tok tok_bx; (first | (with_reducible refine Hp.wpl_box sh ?_ ?_) | (with_reducible refine Hp.wpl_alloc Try.z_ev sh ?_ ?_)); exact rfl; clear sh; (try clear F); go_simp; intro bx w1 sh; have F := sh.facts; (try simp only [Hp.Facts, Hp.CellsAt, Nat.reduceAdd, List.cons_append, List.nil_append] at F))
          | ((with_reducible refine Hp.wpl_box sh ?_ ?_); exact rfl; clear sh; (try clear F); go_simp; intro b w1 sh; have F := sh.facts; (try simp only [Hp.Facts, Hp.CellsAt, Nat.reduceAdd, List.cons_append, List.nil_append] at F))
          | ((with_reducible refine Hp.wpl_alloc Try.z_ev sh ?_ ?_); exact rfl; clear sh; (try clear F); go_simp; intro b w1 sh; have F := sh.facts; (try simp only [Hp.Facts, Hp.CellsAt, Nat.reduceAdd, List.cons_append, List.nil_append] at F))
          | ((with_reducible refine Hp.atl_store ?_ ?_); exact rfl; (first | refine Hp.wp_store 0 sh rfl rfl rfl rfl (by kernel_rfl) (Nat.le_of_ble_eq_true rfl) rfl ?_ | refine Hp.wp_store 1 sh rfl rfl rfl rfl (by kernel_rfl) (Nat.le_of_ble_eq_true rfl) rfl ?_ | refine Hp.wp_store 2 sh rfl rfl rfl rfl (by kernel_rfl) (Nat.le_of_ble_eq_true rfl) rfl ?_ | refine Hp.wp_store 3 sh rfl rfl rfl rfl (by kernel_rfl) (Nat.le_of_ble_eq_true rfl) rfl ?_ | refine Hp.wp_store 4 sh rfl rfl rfl rfl (by kernel_rfl) (Nat.le_of_ble_eq_true rfl) rfl ?_ | refine Hp.wp_store 5 sh rfl rfl rfl rfl (by kernel_rfl) (Nat.le_of_ble_eq_true rfl) rfl ?_ | refine Hp.wp_store 6 sh rfl rfl rfl rfl (by kernel_rfl) (Nat.le_of_ble_eq_true rfl) rfl ?_); clear sh; (try clear F); go_simp; intro w1 sh; have F := sh.facts; (try simp only [Hp.Facts, Hp.CellsAt, Nat.reduceAdd, List.cons_append, List.nil_append] at F))
          | fail)
      go_ret2
      exact ⟨RT.out _ _ _ _ X0.out.symm Y0.out.symm, sh.below⟩
    · have y0 : y = 0 := by rw [P2.out, if_neg g2]
      subst y0
      by_cases g6 : 1 ≤ k
      · have g7 : ¬ k ≤ 8 := fun q => g2 ⟨g6, q⟩
        clear g2
        go_enter Try.func27, Try.ntmps27
        have tok_bx : True := trivial
        go_wp2_with (first
            | ((have tok := tok_bx); clear tok tok_bx; (first | (with_reducible refine Hp.wpl_box sh ?_ ?_) | (with_reducible refine Hp.wpl_alloc Try.z_ev sh ?_ ?_)); exact rfl; clear sh; (try clear F); go_simp; intro bx w1 sh; have F := sh.facts; (try simp only [Hp.Facts, Hp.CellsAt, Nat.reduceAdd, List.cons_append, List.nil_append] at F))
            | ((with_reducible refine Hp.wpl_box sh ?_ ?_); exact rfl; clear sh; (try clear F); go_simp; intro b w1 sh; have F := sh.facts; (try simp only [Hp.Facts, Hp.CellsAt, Nat.reduceAdd, List.cons_append, List.nil_append] at F))
            | ((with_reducible refine Hp.wpl_alloc Try.z_ev sh ?_ ?_); exact rfl; clear sh; (try clear F); go_simp; intro b w1 sh; have F := sh.facts; (try simp only [Hp.Facts, Hp.CellsAt, Nat.reduceAdd, List.cons_append, List.nil_append] at F))
            | ((with_reducible refine Hp.atl_store ?_ ?_); exact rfl; (first | refine Hp.wp_store 0 sh rfl rfl rfl rfl (by kernel_rfl) (Nat.le_of_ble_eq_true rfl) rfl ?_ | refine Hp.wp_store 1 sh rfl rfl rfl rfl (by kernel_rfl) (Nat.le_of_ble_eq_true rfl) rfl ?_ | refine Hp.wp_store 2 sh rfl rfl rfl rfl (by kernel_rfl) (Nat.le_of_ble_eq_true rfl) rfl ?_ | refine Hp.wp_store 3 sh rfl rfl rfl rfl (by kernel_rfl) (Nat.le_of_ble_eq_true rfl) rfl ?_ | refine Hp.wp_store 4 sh rfl rfl rfl rfl (by kernel_rfl) (Nat.le_of_ble_eq_true rfl) rfl ?_ | refine Hp.wp_store 5 sh rfl rfl rfl rfl (by kernel_rfl) (Nat.le_of_ble_eq_true rfl) rfl ?_ | refine Hp.wp_store 6 sh rfl rfl rfl rfl (by kernel_rfl) (Nat.le_of_ble_eq_true rfl) rfl ?_); clear sh; (try clear F); go_simp; intro w1 sh; have F := sh.facts; (try simp only [Hp.Facts, Hp.CellsAt, Nat.reduceAdd, List.cons_append, List.nil_append] at F))
            | fail)
        go_ret2
        exact ⟨RT.out _ _ _ _ X0.out.symm rfl, sh.below⟩
      · clear g2
        go_enter Try.func27, Try.ntmps27
        have tok_bx : True := trivial
        go_wp2_with (first
            | ((have tok := tok_bx); clear tok tok_bx; (first | (with_reducible refine Hp.wpl_box sh ?_ ?_) | (with_reducible refine Hp.wpl_alloc Try.z_ev sh ?_ ?_)); exact rfl; clear sh; (try clear F); go_simp; intro bx w1 sh; have F := sh.facts; (try simp only [Hp.Facts, Hp.CellsAt, Nat.reduceAdd, List.cons_append, List.nil_append] at F))
            | ((with_reducible refine Hp.wpl_box sh ?_ ?_); exact rfl; clear sh; (try clear F); go_simp; intro b w1 sh; have F := sh.facts; (try simp only [Hp.Facts, Hp.CellsAt, Nat.reduceAdd, List.cons_append, List.nil_append] at F))
            | ((with_reducible refine Hp.wpl_alloc Try.z_ev sh ?_ ?_); exact rfl; clear sh; (try clear F); go_simp; intro b w1 sh; have F := sh.facts; (try simp only [Hp.Facts, Hp.CellsAt, Nat.reduceAdd, List.cons_append, List.nil_append] at F))
            | ((with_reducible refine Hp.atl_store ?_ ?_); exact rfl; (first | refine Hp.wp_store 0 sh rfl rfl rfl rfl (by kernel_rfl) (Nat.le_of_ble_eq_true rfl) rfl ?_ | refine Hp.wp_store 1 sh rfl rfl rfl rfl (by kernel_rfl) (Nat.le_of_ble_eq_true rfl) rfl ?_ | refine Hp.wp_store 2 sh rfl rfl rfl rfl (by kernel_rfl) (Nat.le_of_ble_eq_true rfl) rfl ?_ | refine Hp.wp_store 3 sh rfl rfl rfl rfl (by kernel_rfl) (Nat.le_of_ble_eq_true rfl) rfl ?_ | refine Hp.wp_store 4 sh rfl rfl rfl rfl (by kernel_rfl) (Nat.le_of_ble_eq_true rfl) rfl ?_ | refine Hp.wp_store 5 sh rfl rfl rfl rfl (by kernel_rfl) (Nat.le_of_ble_eq_true rfl) rfl ?_ | refine Hp.wp_store 6 sh rfl rfl rfl rfl (by kernel_rfl) (Nat.le_of_ble_eq_true rfl) rfl ?_); clear sh; (try clear F); go_simp; intro w1 sh; have F := sh.facts; (try simp only [Hp.Facts, Hp.CellsAt, Nat.reduceAdd, List.cons_append, List.nil_append] at F))
            | fail)
        go_ret2
        exact ⟨RT.out _ _ _ _ X0.out.symm rfl, sh.below⟩
  · have x0 : x = 0 := by rw [P1.out, if_neg g1]
    subst x0
    have key : ∀ g3' : (-1 ≤ p ∧ ¬ p < 32) ∨ ¬ -1 ≤ p, Calls Try.prog 27 #[.agg #[.int .u64 s, .int .i64 t, .int .i64 p, .int .i64 k, .int .i64 a, .int .i64 b]] w (fun e w' => e = .returned (.tuple #[.int .u64 0, .int .u64 y]) ∧ Below w.heap.size w w') := by
      intro g3
      by_cases g2 : 1 ≤ k ∧ k ≤ 8
      · have y0 : y = 2 ^ k.toNat := by rw [P2.out, if_pos g2]
        obtain ⟨g6, g7⟩ := g2
        have v1 : IntKind.u64.wrap k = k := QryP.wrap_u (by omega) (by omega)
        have v2 : k < 64 := by omega
        have v3 : 0 ≤ k := by omega
        have v4 := QryP.shl1 ⟨k.toNat, by omega⟩
        have v5 := QryP.shl1' ⟨k.toNat, by omega⟩
        dsimp only at v4 v5
        have Y0 := Lib.hid y0
        clear y0
        rcases g3 with ⟨g3, g4⟩ | g3
        · have g5 : ¬ p ≤ 31 := by omega
          go_enter Try.func27, Try.ntmps27
          have tok_bx : True := trivial
          go_wp2_with (first
              | ((have tok := tok_bx); clear tok tok_bx; (first | (with_reducible refine Hp.wpl_box sh ?_ ?_) | (with_reducible refine Hp.wpl_alloc Try.z_ev sh ?_ ?_)); exact rfl; clear sh; (try clear F); go_simp; intro bx w1 sh; have F := sh.facts; (try simp only [Hp.Facts, Hp.CellsAt, Nat.reduceAdd, List.cons_append, List.nil_append] at F))
              | ((with_reducible refine Hp.wpl_box sh ?_ ?_); exact rfl; clear sh; (try clear F); go_simp; intro b w1 sh; have F := sh.facts; (try simp only [Hp.Facts, Hp.CellsAt, Nat.reduceAdd, List.cons_append, List.nil_append] at F))
              | ((with_reducible refine Hp.wpl_alloc Try.z_ev sh ?_ ?_); exact rfl; clear sh; (try clear F); go_simp; intro b w1 sh; have F := sh.facts; (try simp only [Hp.Facts, Hp.CellsAt, Nat.reduceAdd, List.cons_append, List.nil_append] at F))
              | ((with_reducible refine Hp.atl_store ?_ ?_); exact rfl; (first | refine Hp.wp_store 0 sh rfl rfl rfl rfl (by kernel_rfl) (Nat.le_of_ble_eq_true rfl) rfl ?_ | refine Hp.wp_store 1 sh rfl rfl rfl rfl (by kernel_rfl) (Nat.le_of_ble_eq_true rfl) rfl ?_ | refine Hp.wp_store 2 sh rfl rfl rfl rfl (by kernel_rfl) (Nat.le_of_ble_eq_true rfl) rfl ?_ | refine Hp.wp_store 3 sh rfl rfl rfl rfl (by kernel_rfl) (Nat.le_of_ble_eq_true rfl) rfl ?_ | refine Hp.wp_store 4 sh rfl rfl rfl rfl (by kernel_rfl) (Nat.le_of_ble_eq_true rfl) rfl ?_ | refine Hp.wp_store 5 sh rfl rfl rfl rfl (by kernel_rfl) (Nat.le_of_ble_eq_true rfl) rfl ?_ | refine Hp.wp_store 6 sh rfl rfl rfl rfl (by kernel_rfl) (Nat.le_of_ble_eq_true rfl) rfl ?_); clear sh; (try clear F); go_simp; intro w1 sh; have F := sh.facts; (try simp only [Hp.Facts, Hp.CellsAt, Nat.reduceAdd, List.cons_append, List.nil_append] at F))
              | fail)
          go_ret2
          exact ⟨RT.out _ _ _ _ rfl Y0.out.symm, sh.below⟩
        · go_enter Try.func27, Try.ntmps27
          have tok_bx : True := trivial
          go_wp2_with (first
              | ((have tok := tok_bx); clear tok tok_bx; (first | (with_reducible refine Hp.wpl_box sh ?_ ?_) | (with_reducible refine Hp.wpl_alloc Try.z_ev sh ?_ ?_)); exact rfl; clear sh; (try clear F); go_simp; intro bx w1 sh; have F := sh.facts; (try simp only [Hp.Facts, Hp.CellsAt, Nat.reduceAdd, List.cons_append, List.nil_append] at F))
              | ((with_reducible refine Hp.wpl_box sh ?_ ?_); exact rfl; clear sh; (try clear F); go_simp; intro b w1 sh; have F := sh.facts; (try simp only [Hp.Facts, Hp.CellsAt, Nat.reduceAdd, List.cons_append, List.nil_append] at F))
              | ((with_reducible refine Hp.wpl_alloc Try.z_ev sh ?_ ?_); exact rfl; clear sh; (try clear F); go_simp; intro b w1 sh; have F := sh.facts; (try simp only [Hp.Facts, Hp.CellsAt, Nat.reduceAdd, List.cons_append, List.nil_append] at F))
              | ((with_reducible refine Hp.atl_store ?_ ?_); exact rfl; (first | refine Hp.wp_store 0 sh rfl rfl rfl rfl (by kernel_rfl) (Nat.le_of_ble_eq_true rfl) rfl ?_ | refine Hp.wp_store 1 sh rfl rfl rfl rfl (by kernel_rfl) (Nat.le_of_ble_eq_true rfl) rfl ?_ | refine Hp.wp_store 2 sh rfl rfl rfl rfl (by kernel_rfl) (Nat.le_of_ble_eq_true rfl) rfl ?_ | refine Hp.wp_store 3 sh rfl rfl rfl rfl (by kernel_rfl) (Nat.le_of_ble_eq_true rfl) rfl ?_ | refine Hp.wp_store 4 sh rfl rfl rfl rfl (by kernel_rfl) (Nat.le_of_ble_eq_true rfl) rfl ?_ | refine Hp.wp_store 5 sh rfl rfl rfl rfl (by kernel_rfl) (Nat.le_of_ble_eq_true rfl) rfl ?_ | refine Hp.wp_store 6 sh rfl rfl rfl rfl (by kernel_rfl) (Nat.le_of_ble_eq_true rfl) rfl ?_); clear sh; (try clear F); go_simp; intro w1 sh; have F := sh.facts; (try simp only [Hp.Facts, Hp.CellsAt, Nat.reduceAdd, List.cons_append, List.nil_append] at F))
              | fail)
          go_ret2
          exact ⟨RT.out _ _ _ _ rfl Y0.out.symm, sh.below⟩
      · have y0 : y = 0 := by rw [P2.out, if_neg g2]
        subst y0
        by_cases g6 : 1 ≤ k
        · have g7 : ¬ k ≤ 8 := fun q => g2 ⟨g6, q⟩
          clear g2
          rcases g3 with ⟨g3, g4⟩ | g3
          · have g5 : ¬ p ≤ 31 := by omega
            go_enter Try.func27, Try.ntmps27
            have tok_bx : True := trivial
            go_wp2_with (first
                | ((have tok := tok_bx); clear tok tok_bx; (first | (with_reducible refine Hp.wpl_box sh ?_ ?_) | (with_reducible refine Hp.wpl_alloc Try.z_ev sh ?_ ?_)); exact rfl; clear sh; (try clear F); go_simp; intro bx w1 sh; have F := sh.facts; (try simp only [Hp.Facts, Hp.CellsAt, Nat.reduceAdd, List.cons_append, List.nil_append] at F))
                | ((with_reducible refine Hp.wpl_box sh ?_ ?_); exact rfl; clear sh; (try clear F); go_simp; intro b w1 sh; have F := sh.facts; (try simp only [Hp.Facts, Hp.CellsAt, Nat.reduceAdd, List.cons_append, List.nil_append] at F))
                | ((with_reducible refine Hp.wpl_alloc Try.z_ev sh ?_ ?_); exact rfl; clear sh; (try clear F); go_simp; intro b w1 sh; have F := sh.facts; (try simp only [Hp.Facts, Hp.CellsAt, Nat.reduceAdd, List.cons_append, List.nil_append] at F))
                | ((with_reducible refine Hp.atl_store ?_ ?_); exact rfl; (first | refine Hp.wp_store 0 sh rfl rfl rfl rfl (by kernel_rfl) (Nat.le_of_ble_eq_true rfl) rfl ?_ | refine Hp.wp_store 1 sh rfl rfl rfl rfl (by kernel_rfl) (Nat.le_of_ble_eq_true rfl) rfl ?_ | refine Hp.wp_store 2 sh rfl rfl rfl rfl (by kernel_rfl) (Nat.le_of_ble_eq_true rfl) rfl ?_ | refine Hp.wp_store 3 sh rfl rfl rfl rfl (by kernel_rfl) (Nat.le_of_ble_eq_true rfl) rfl ?_ | refine Hp.wp_store 4 sh rfl rfl rfl rfl (by kernel_rfl) (Nat.le_of_ble_eq_true rfl) rfl ?_ | refine Hp.wp_store 5 sh rfl rfl rfl rfl (by kernel_rfl) (Nat.le_of_ble_eq_true rfl) rfl ?_ | refine Hp.wp_store 6 sh rfl rfl rfl rfl (by kernel_rfl) (Nat.le_of_ble_eq_true rfl) rfl ?_); clear sh; (try clear F); go_simp; intro w1 sh; have F := sh.facts; (try simp only [Hp.Facts, Hp.CellsAt, Nat.reduceAdd, List.cons_append, List.nil_append] at F))
                | fail)
            go_ret2
            exact ⟨RT.out _ _ _ _ rfl rfl, sh.below⟩
          · go_enter Try.func27, Try.ntmps27
            have tok_bx : True := trivial
            go_wp2_with (first
                | ((have tok := tok_bx); clear tok tok_bx; (first | (with_reducible refine Hp.wpl_box sh ?_ ?_) | (with_reducible refine Hp.wpl_alloc Try.z_ev sh ?_ ?_)); exact rfl; clear sh; (try clear F); go_simp; intro bx w1 sh; have F := sh.facts; (try simp only [Hp.Facts, Hp.CellsAt, Nat.reduceAdd, List.cons_append, List.nil_append] at F))
                | ((with_reducible refine Hp.wpl_box sh ?_ ?_); exact rfl; clear sh; (try clear F); go_simp; intro b w1 sh; have F := sh.facts; (try simp only [Hp.Facts, Hp.CellsAt, Nat.reduceAdd, List.cons_append, List.nil_append] at F))
                | ((with_reducible refine Hp.wpl_alloc Try.z_ev sh ?_ ?_); exact rfl; clear sh; (try clear F); go_simp; intro b w1 sh; have F := sh.facts; (try simp only [Hp.Facts, Hp.CellsAt, Nat.reduceAdd, List.cons_append, List.nil_append] at F))
                | ((with_reducible refine Hp.atl_store ?_ ?_); exact rfl; (first | refine Hp.wp_store 0 sh rfl rfl rfl rfl (by kernel_rfl) (Nat.le_of_ble_eq_true rfl) rfl ?_ | refine Hp.wp_store 1 sh rfl rfl rfl rfl (by kernel_rfl) (Nat.le_of_ble_eq_true rfl) rfl ?_ | refine Hp.wp_store 2 sh rfl rfl rfl rfl (by kernel_rfl) (Nat.le_of_ble_eq_true rfl) rfl ?_ | refine Hp.wp_store 3 sh rfl rfl rfl rfl (by kernel_rfl) (Nat.le_of_ble_eq_true rfl) rfl ?_ | refine Hp.wp_store 4 sh rfl rfl rfl rfl (by kernel_rfl) (Nat.le_of_ble_eq_true rfl) rfl ?_ | refine Hp.wp_store 5 sh rfl rfl rfl rfl (by kernel_rfl) (Nat.le_of_ble_eq_true rfl) rfl ?_ | refine Hp.wp_store 6 sh rfl rfl rfl rfl (by kernel_rfl) (Nat.le_of_ble_eq_true rfl) rfl ?_); clear sh; (try clear F); go_simp; intro w1 sh; have F := sh.facts; (try simp only [Hp.Facts, Hp.CellsAt, Nat.reduceAdd, List.cons_append, List.nil_append] at F))
                | fail)
            go_ret2
            exact ⟨RT.out _ _ _ _ rfl rfl, sh.below⟩
        · clear g2
          rcases g3 with ⟨g3, g4⟩ | g3
          · have g5 : ¬ p ≤ 31 := by omega
            go_enter Try.func27, Try.ntmps27
            have tok_bx : True := trivial
            go_wp2_with (first
                | ((have tok := tok_bx); clear tok tok_bx; (first | (with_reducible refine Hp.wpl_box sh ?_ ?_) | (with_reducible refine Hp.wpl_alloc Try.z_ev sh ?_ ?_)); exact rfl; clear sh; (try clear F); go_simp; intro bx w1 sh; have F := sh.facts; (try simp only [Hp.Facts, Hp.CellsAt, Nat.reduceAdd, List.cons_append, List.nil_append] at F))
                | ((with_reducible refine Hp.wpl_box sh ?_ ?_); exact rfl; clear sh; (try clear F); go_simp; intro b w1 sh; have F := sh.facts; (try simp only [Hp.Facts, Hp.CellsAt, Nat.reduceAdd, List.cons_append, List.nil_append] at F))
                | ((with_reducible refine Hp.wpl_alloc Try.z_ev sh ?_ ?_); exact rfl; clear sh; (try clear F); go_simp; intro b w1 sh; have F := sh.facts; (try simp only [Hp.Facts, Hp.CellsAt, Nat.reduceAdd, List.cons_append, List.nil_append] at F))
                | ((with_reducible refine Hp.atl_store ?_ ?_); exact rfl; (first | refine Hp.wp_store 0 sh rfl rfl rfl rfl (by kernel_rfl) (Nat.le_of_ble_eq_true rfl) rfl ?_ | refine Hp.wp_store 1 sh rfl rfl rfl rfl (by kernel_rfl) (Nat.le_of_ble_eq_true rfl) rfl ?_ | refine Hp.wp_store 2 sh rfl rfl rfl rfl (by kernel_rfl) (Nat.le_of_ble_eq_true rfl) rfl ?_ | refine Hp.wp_store 3 sh rfl rfl rfl rfl (by kernel_rfl) (Nat.le_of_ble_eq_true rfl) rfl ?_ | refine Hp.wp_store 4 sh rfl rfl rfl rfl (by kernel_rfl) (Nat.le_of_ble_eq_true rfl) rfl ?_ | refine Hp.wp_store 5 sh rfl rfl rfl rfl (by kernel_rfl) (Nat.le_of_ble_eq_true rfl) rfl ?_ | refine Hp.wp_store 6 sh rfl rfl rfl rfl (by kernel_rfl) (Nat.le_of_ble_eq_true rfl) rfl ?_); clear sh; (try clear F); go_simp; intro w1 sh; have F := sh.facts; (try simp only [Hp.Facts, Hp.CellsAt, Nat.reduceAdd, List.cons_append, List.nil_append] at F))
                | fail)
            go_ret2
            exact ⟨RT.out _ _ _ _ rfl rfl, sh.below⟩
          · go_enter Try.func27, Try.ntmps27
            have tok_bx : True := trivial
            go_wp2_with (first
                | ((have tok := tok_bx); clear tok tok_bx; (first | (with_reducible refine Hp.wpl_box sh ?_ ?_) | (with_reducible refine Hp.wpl_alloc Try.z_ev sh ?_ ?_)); exact rfl; clear sh; (try clear F); go_simp; intro bx w1 sh; have F := sh.facts; (try simp only [Hp.Facts, Hp.CellsAt, Nat.reduceAdd, List.cons_append, List.nil_append] at F))
                | ((with_reducible refine Hp.wpl_box sh ?_ ?_); exact rfl; clear sh; (try clear F); go_simp; intro b w1 sh; have F := sh.facts; (try simp only [Hp.Facts, Hp.CellsAt, Nat.reduceAdd, List.cons_append, List.nil_append] at F))
                | ((with_reducible refine Hp.wpl_alloc Try.z_ev sh ?_ ?_); exact rfl; clear sh; (try clear F); go_simp; intro b w1 sh; have F := sh.facts; (try simp only [Hp.Facts, Hp.CellsAt, Nat.reduceAdd, List.cons_append, List.nil_append] at F))
                | ((with_reducible refine Hp.atl_store ?_ ?_); exact rfl; (first | refine Hp.wp_store 0 sh rfl rfl rfl rfl (by kernel_rfl) (Nat.le_of_ble_eq_true rfl) rfl ?_ | refine Hp.wp_store 1 sh rfl rfl rfl rfl (by kernel_rfl) (Nat.le_of_ble_eq_true rfl) rfl ?_ | refine Hp.wp_store 2 sh rfl rfl rfl rfl (by kernel_rfl) (Nat.le_of_ble_eq_true rfl) rfl ?_ | refine Hp.wp_store 3 sh rfl rfl rfl rfl (by kernel_rfl) (Nat.le_of_ble_eq_true rfl) rfl ?_ | refine Hp.wp_store 4 sh rfl rfl rfl rfl (by kernel_rfl) (Nat.le_of_ble_eq_true rfl) rfl ?_ | refine Hp.wp_store 5 sh rfl rfl rfl rfl (by kernel_rfl) (Nat.le_of_ble_eq_true rfl) rfl ?_ | refine Hp.wp_store 6 sh rfl rfl rfl rfl (by kernel_rfl) (Nat.le_of_ble_eq_true rfl) rfl ?_); clear sh; (try clear F); go_simp; intro w1 sh; have F := sh.facts; (try simp only [Hp.Facts, Hp.CellsAt, Nat.reduceAdd, List.cons_append, List.nil_append] at F))
                | fail)
            go_ret2
            exact ⟨RT.out _ _ _ _ rfl rfl, sh.below⟩
    refine key ?_
    omega

set_option maxHeartbeats 4000000 in
set_option maxRecDepth 100000 in
theorem qrsets (s t p k a b : Int) (w : World) (hs : 0 ≤ s ∧ s ≤ 18446744073709551615) (ht : -9223372036854775808 ≤ t ∧ t ≤ 9223372036854775807) (hp : -9223372036854775808 ≤ p ∧ p ≤ 9223372036854775807) (hk : -9223372036854775808 ≤ k ∧ k ≤ 9223372036854775807) (ha : -9223372036854775808 ≤ a ∧ a ≤ 9223372036854775807) (hb : -9223372036854775808 ≤ b ∧ b ≤ 9223372036854775807) : Calls Try.prog 28 #[.agg #[.int .u64 s, .int .i64 t, .int .i64 p, .int .i64 k, .int .i64 a, .int .i64 b]] w fun e w' => e = .returned (.tuple #[.int .u64 (QryP.partS p), .int .u64 (QryP.kindS k)]) ∧ Below w.heap.size w w' := by
  have sh : Hp.Sh w w [] (fun _ => True) := Hp.Sh.start (fun _ _ => trivial)
  have P1 := Lib.hid (show QryP.partS p = if -1 ≤ p ∧ p ≤ 31 then 2 ^ (p + 1).toNat else 0 from rfl)
  have P2 := Lib.hid (show QryP.kindS k = if 1 ≤ k ∧ k ≤ 8 then 2 ^ k.toNat else 0 from rfl)
  generalize QryP.partS p = x at P1 ⊢
  generalize QryP.kindS k = y at P2 ⊢
  have ret : ∀ a b c d : Int, a = c → b = d → Ending.returned (.tuple #[.int .u64 a, .int .u64 b]) = .returned (.tuple #[.int .u64 c, .int .u64 d]) := by intro a b c d h1 h2; rw [h1, h2]
  have RT := Lib.hid ret
  clear ret
  by_cases g1 : -1 ≤ p ∧ p ≤ 31
  · have x0 : x = 2 ^ (p + 1).toNat := by rw [P1.out, if_pos g1]
    obtain ⟨g3, g4⟩ := g1
    have g5 : p < 32 := by omega
    have w1 : IntKind.u64.wrap (p + 1) = p + 1 := QryP.wrap_u (by omega) (by omega)
    have w2 : p + 1 < 64 := by omega
    have w3 : 0 ≤ p + 1 := by omega
    have w4 := QryP.shl1 ⟨(p + 1).toNat, by omega⟩
    have w5 := QryP.shl1' ⟨(p + 1).toNat, by omega⟩
    dsimp only at w4 w5
    have X0 := Lib.hid x0
    clear x0
    by_cases g2 : 1 ≤ k ∧ k ≤ 8
    · have y0 : y = 2 ^ k.toNat := by rw [P2.out, if_pos g2]
      obtain ⟨g6, g7⟩ := g2
      have v1 : IntKind.u64.wrap k = k := QryP.wrap_u (by omega) (by omega)
      have v2 : k < 64 := by omega
      have v3 : 0 ≤ k := by omega
      have v4 := QryP.shl1 ⟨k.toNat, by omega⟩
      have v5 := QryP.shl1' ⟨k.toNat, by omega⟩
      dsimp only at v4 v5
      have Y0 := Lib.hid y0
      clear y0
      go_enter Try.func28, Try.ntmps28
      have tok_bx : True := trivial
      go_wp2_with (first
          | ((have tok := tok_bx); clear tok tok_bx; (first | (with_reducible refine Hp.wpl_box sh ?_ ?_) | (with_reducible refine Hp.wpl_alloc Try.z_ev sh ?_ ?_)); exact rfl; clear sh; (try clear F); go_simp; intro bx w1 sh; have F := sh.facts; (try simp only [Hp.Facts, Hp.CellsAt, Nat.reduceAdd, List.cons_append, List.nil_append] at F))
          | ((with_reducible refine Hp.wpl_box sh ?_ ?_); exact rfl; clear sh; (try clear F); go_simp; intro b w1 sh; have F := sh.facts; (try simp only [Hp.Facts, Hp.CellsAt, Nat.reduceAdd, List.cons_append, List.nil_append] at F))
          | ((with_reducible refine Hp.wpl_alloc Try.z_ev sh ?_ ?_); exact rfl; clear sh; (try clear F); go_simp; intro b w1 sh; have F := sh.facts; (try simp only [Hp.Facts, Hp.CellsAt, Nat.reduceAdd, List.cons_append, List.nil_append] at F))
          | ((with_reducible refine Hp.atl_store ?_ ?_); exact rfl; (first | refine Hp.wp_store 0 sh rfl rfl rfl rfl (by kernel_rfl) (Nat.le_of_ble_eq_true rfl) rfl ?_ | refine Hp.wp_store 1 sh rfl rfl rfl rfl (by kernel_rfl) (Nat.le_of_ble_eq_true rfl) rfl ?_ | refine Hp.wp_store 2 sh rfl rfl rfl rfl (by kernel_rfl) (Nat.le_of_ble_eq_true rfl) rfl ?_ | refine Hp.wp_store 3 sh rfl rfl rfl rfl (by kernel_rfl) (Nat.le_of_ble_eq_true rfl) rfl ?_ | refine Hp.wp_store 4 sh rfl rfl rfl rfl (by kernel_rfl) (Nat.le_of_ble_eq_true rfl) rfl ?_ | refine Hp.wp_store 5 sh rfl rfl rfl rfl (by kernel_rfl) (Nat.le_of_ble_eq_true rfl) rfl ?_ | refine Hp.wp_store 6 sh rfl rfl rfl rfl (by kernel_rfl) (Nat.le_of_ble_eq_true rfl) rfl ?_); clear sh; (try clear F); go_simp; intro w1 sh; have F := sh.facts; (try simp only [Hp.Facts, Hp.CellsAt, Nat.reduceAdd, List.cons_append, List.nil_append] at F))
          | fail)
      go_ret2
      exact ⟨RT.out _ _ _ _ X0.out.symm Y0.out.symm, sh.below⟩
    · have y0 : y = 0 := by rw [P2.out, if_neg g2]
      subst y0
      by_cases g6 : 1 ≤ k
      · have g7 : ¬ k ≤ 8 := fun q => g2 ⟨g6, q⟩
        clear g2
        go_enter Try.func28, Try.ntmps28
        have tok_bx : True := trivial
        go_wp2_with (first
            | ((have tok := tok_bx); clear tok tok_bx; (first | (with_reducible refine Hp.wpl_box sh ?_ ?_) | (with_reducible refine Hp.wpl_alloc Try.z_ev sh ?_ ?_)); exact rfl; clear sh; (try clear F); go_simp; intro bx w1 sh; have F := sh.facts; (try simp only [Hp.Facts, Hp.CellsAt, Nat.reduceAdd, List.cons_append, List.nil_append] at F))
            | ((with_reducible refine Hp.wpl_box sh ?_ ?_); exact rfl; clear sh; (try clear F); go_simp; intro b w1 sh; have F := sh.facts; (try simp only [Hp.Facts, Hp.CellsAt, Nat.reduceAdd, List.cons_append, List.nil_append] at F))
            | ((with_reducible refine Hp.wpl_alloc Try.z_ev sh ?_ ?_); exact rfl; clear sh; (try clear F); go_simp; intro b w1 sh; have F := sh.facts; (try simp only [Hp.Facts, Hp.CellsAt, Nat.reduceAdd, List.cons_append, List.nil_append] at F))
            | ((with_reducible refine Hp.atl_store ?_ ?_); exact rfl; (first | refine Hp.wp_store 0 sh rfl rfl rfl rfl (by kernel_rfl) (Nat.le_of_ble_eq_true rfl) rfl ?_ | refine Hp.wp_store 1 sh rfl rfl rfl rfl (by kernel_rfl) (Nat.le_of_ble_eq_true rfl) rfl ?_ | refine Hp.wp_store 2 sh rfl rfl rfl rfl (by kernel_rfl) (Nat.le_of_ble_eq_true rfl) rfl ?_ | refine Hp.wp_store 3 sh rfl rfl rfl rfl (by kernel_rfl) (Nat.le_of_ble_eq_true rfl) rfl ?_ | refine Hp.wp_store 4 sh rfl rfl rfl rfl (by kernel_rfl) (Nat.le_of_ble_eq_true rfl) rfl ?_ | refine Hp.wp_store 5 sh rfl rfl rfl rfl (by kernel_rfl) (Nat.le_of_ble_eq_true rfl) rfl ?_ | refine Hp.wp_store 6 sh rfl rfl rfl rfl (by kernel_rfl) (Nat.le_of_ble_eq_true rfl) rfl ?_); clear sh; (try clear F); go_simp; intro w1 sh; have F := sh.facts; (try simp only [Hp.Facts, Hp.CellsAt, Nat.reduceAdd, List.cons_append, List.nil_append] at F))
            | fail)
        go_ret2
        exact ⟨RT.out _ _ _ _ X0.out.symm rfl, sh.below⟩
      · clear g2
        go_enter Try.func28, Try.ntmps28
        have tok_bx : True := trivial
        go_wp2_with (first
            | ((have tok := tok_bx); clear tok tok_bx; (first | (with_reducible refine Hp.wpl_box sh ?_ ?_) | (with_reducible refine Hp.wpl_alloc Try.z_ev sh ?_ ?_)); exact rfl; clear sh; (try clear F); go_simp; intro bx w1 sh; have F := sh.facts; (try simp only [Hp.Facts, Hp.CellsAt, Nat.reduceAdd, List.cons_append, List.nil_append] at F))
            | ((with_reducible refine Hp.wpl_box sh ?_ ?_); exact rfl; clear sh; (try clear F); go_simp; intro b w1 sh; have F := sh.facts; (try simp only [Hp.Facts, Hp.CellsAt, Nat.reduceAdd, List.cons_append, List.nil_append] at F))
            | ((with_reducible refine Hp.wpl_alloc Try.z_ev sh ?_ ?_); exact rfl; clear sh; (try clear F); go_simp; intro b w1 sh; have F := sh.facts; (try simp only [Hp.Facts, Hp.CellsAt, Nat.reduceAdd, List.cons_append, List.nil_append] at F))
            | ((with_reducible refine Hp.atl_store ?_ ?_); exact rfl; (first | refine Hp.wp_store 0 sh rfl rfl rfl rfl (by kernel_rfl) (Nat.le_of_ble_eq_true rfl) rfl ?_ | refine Hp.wp_store 1 sh rfl rfl rfl rfl (by kernel_rfl) (Nat.le_of_ble_eq_true rfl) rfl ?_ | refine Hp.wp_store 2 sh rfl rfl rfl rfl (by kernel_rfl) (Nat.le_of_ble_eq_true rfl) rfl ?_ | refine Hp.wp_store 3 sh rfl rfl rfl rfl (by kernel_rfl) (Nat.le_of_ble_eq_true rfl) rfl ?_ | refine Hp.wp_store 4 sh rfl rfl rfl rfl (by kernel_rfl) (Nat.le_of_ble_eq_true rfl) rfl ?_ | refine Hp.wp_store 5 sh rfl rfl rfl rfl (by kernel_rfl) (Nat.le_of_ble_eq_true rfl) rfl ?_ | refine Hp.wp_store 6 sh rfl rfl rfl rfl (by kernel_rfl) (Nat.le_of_ble_eq_true rfl) rfl ?_); clear sh; (try clear F); go_simp; intro w1 sh; have F := sh.facts; (try simp only [Hp.Facts, Hp.CellsAt, Nat.reduceAdd, List.cons_append, List.nil_append] at F))
            | fail)
        go_ret2
        exact ⟨RT.out _ _ _ _ X0.out.symm rfl, sh.below⟩
  · have x0 : x = 0 := by rw [P1.out, if_neg g1]
    subst x0
    have key : ∀ g3' : (-1 ≤ p ∧ ¬ p < 32) ∨ ¬ -1 ≤ p, Calls Try.prog 28 #[.agg #[.int .u64 s, .int .i64 t, .int .i64 p, .int .i64 k, .int .i64 a, .int .i64 b]] w (fun e w' => e = .returned (.tuple #[.int .u64 0, .int .u64 y]) ∧ Below w.heap.size w w') := by
      intro g3
      by_cases g2 : 1 ≤ k ∧ k ≤ 8
      · have y0 : y = 2 ^ k.toNat := by rw [P2.out, if_pos g2]
        obtain ⟨g6, g7⟩ := g2
        have v1 : IntKind.u64.wrap k = k := QryP.wrap_u (by omega) (by omega)
        have v2 : k < 64 := by omega
        have v3 : 0 ≤ k := by omega
        have v4 := QryP.shl1 ⟨k.toNat, by omega⟩
        have v5 := QryP.shl1' ⟨k.toNat, by omega⟩
        dsimp only at v4 v5
        have Y0 := Lib.hid y0
        clear y0
        rcases g3 with ⟨g3, g4⟩ | g3
        · have g5 : ¬ p ≤ 31 := by omega
          go_enter Try.func28, Try.ntmps28
          have tok_bx : True := trivial
          go_wp2_with (first
              | ((have tok := tok_bx); clear tok tok_bx; (first | (with_reducible refine Hp.wpl_box sh ?_ ?_) | (with_reducible refine Hp.wpl_alloc Try.z_ev sh ?_ ?_)); exact rfl; clear sh; (try clear F); go_simp; intro bx w1 sh; have F := sh.facts; (try simp only [Hp.Facts, Hp.CellsAt, Nat.reduceAdd, List.cons_append, List.nil_append] at F))
              | ((with_reducible refine Hp.wpl_box sh ?_ ?_); exact rfl; clear sh; (try clear F); go_simp; intro b w1 sh; have F := sh.facts; (try simp only [Hp.Facts, Hp.CellsAt, Nat.reduceAdd, List.cons_append, List.nil_append] at F))
              | ((with_reducible refine Hp.wpl_alloc Try.z_ev sh ?_ ?_); exact rfl; clear sh; (try clear F); go_simp; intro b w1 sh; have F := sh.facts; (try simp only [Hp.Facts, Hp.CellsAt, Nat.reduceAdd, List.cons_append, List.nil_append] at F))
              | ((with_reducible refine Hp.atl_store ?_ ?_); exact rfl; (first | refine Hp.wp_store 0 sh rfl rfl rfl rfl (by kernel_rfl) (Nat.le_of_ble_eq_true rfl) rfl ?_ | refine Hp.wp_store 1 sh rfl rfl rfl rfl (by kernel_rfl) (Nat.le_of_ble_eq_true rfl) rfl ?_ | refine Hp.wp_store 2 sh rfl rfl rfl rfl (by kernel_rfl) (Nat.le_of_ble_eq_true rfl) rfl ?_ | refine Hp.wp_store 3 sh rfl rfl rfl rfl (by kernel_rfl) (Nat.le_of_ble_eq_true rfl) rfl ?_ | refine Hp.wp_store 4 sh rfl rfl rfl rfl (by kernel_rfl) (Nat.le_of_ble_eq_true rfl) rfl ?_ | refine Hp.wp_store 5 sh rfl rfl rfl rfl (by kernel_rfl) (Nat.le_of_ble_eq_true rfl) rfl ?_ | refine Hp.wp_store 6 sh rfl rfl rfl rfl (by kernel_rfl) (Nat.le_of_ble_eq_true rfl) rfl ?_); clear sh; (try clear F); go_simp; intro w1 sh; have F := sh.facts; (try simp only [Hp.Facts, Hp.CellsAt, Nat.reduceAdd, List.cons_append, List.nil_append] at F))
              | fail)
          go_ret2
          exact ⟨RT.out _ _ _ _ rfl Y0.out.symm, sh.below⟩
        · go_enter Try.func28, Try.ntmps28
          have tok_bx : True := trivial
          go_wp2_with (first
              | ((have tok := tok_bx); clear tok tok_bx; (first | (with_reducible refine Hp.wpl_box sh ?_ ?_) | (with_reducible refine Hp.wpl_alloc Try.z_ev sh ?_ ?_)); exact rfl; clear sh; (try clear F); go_simp; intro bx w1 sh; have F := sh.facts; (try simp only [Hp.Facts, Hp.CellsAt, Nat.reduceAdd, List.cons_append, List.nil_append] at F))
              | ((with_reducible refine Hp.wpl_box sh ?_ ?_); exact rfl; clear sh; (try clear F); go_simp; intro b w1 sh; have F := sh.facts; (try simp only [Hp.Facts, Hp.CellsAt, Nat.reduceAdd, List.cons_append, List.nil_append] at F))
              | ((with_reducible refine Hp.wpl_alloc Try.z_ev sh ?_ ?_); exact rfl; clear sh; (try clear F); go_simp; intro b w1 sh; have F := sh.facts; (try simp only [Hp.Facts, Hp.CellsAt, Nat.reduceAdd, List.cons_append, List.nil_append] at F))
              | ((with_reducible refine Hp.atl_store ?_ ?_); exact rfl; (first | refine Hp.wp_store 0 sh rfl rfl rfl rfl (by kernel_rfl) (Nat.le_of_ble_eq_true rfl) rfl ?_ | refine Hp.wp_store 1 sh rfl rfl rfl rfl (by kernel_rfl) (Nat.le_of_ble_eq_true rfl) rfl ?_ | refine Hp.wp_store 2 sh rfl rfl rfl rfl (by kernel_rfl) (Nat.le_of_ble_eq_true rfl) rfl ?_ | refine Hp.wp_store 3 sh rfl rfl rfl rfl (by kernel_rfl) (Nat.le_of_ble_eq_true rfl) rfl ?_ | refine Hp.wp_store 4 sh rfl rfl rfl rfl (by kernel_rfl) (Nat.le_of_ble_eq_true rfl) rfl ?_ | refine Hp.wp_store 5 sh rfl rfl rfl rfl (by kernel_rfl) (Nat.le_of_ble_eq_true rfl) rfl ?_ | refine Hp.wp_store 6 sh rfl rfl rfl rfl (by kernel_rfl) (Nat.le_of_ble_eq_true rfl) rfl ?_); clear sh; (try clear F); go_simp; intro w1 sh; have F := sh.facts; (try simp only [Hp.Facts, Hp.CellsAt, Nat.reduceAdd, List.cons_append, List.nil_append] at F))
              | fail)
          go_ret2
          exact ⟨RT.out _ _ _ _ rfl Y0.out.symm, sh.below⟩
      · have y0 : y = 0 := by rw [P2.out, if_neg g2]
        subst y0
        by_cases g6 : 1 ≤ k
        · have g7 : ¬ k ≤ 8 := fun q => g2 ⟨g6, q⟩
          clear g2
          rcases g3 with ⟨g3, g4⟩ | g3
          · have g5 : ¬ p ≤ 31 := by omega
            go_enter Try.func28, Try.ntmps28
            have tok_bx : True := trivial
            go_wp2_with (first
                | ((have tok := tok_bx); clear tok tok_bx; (first | (with_reducible refine Hp.wpl_box sh ?_ ?_) | (with_reducible refine Hp.wpl_alloc Try.z_ev sh ?_ ?_)); exact rfl; clear sh; (try clear F); go_simp; intro bx w1 sh; have F := sh.facts; (try simp only [Hp.Facts, Hp.CellsAt, Nat.reduceAdd, List.cons_append, List.nil_append] at F))
                | ((with_reducible refine Hp.wpl_box sh ?_ ?_); exact rfl; clear sh; (try clear F); go_simp; intro b w1 sh; have F := sh.facts; (try simp only [Hp.Facts, Hp.CellsAt, Nat.reduceAdd, List.cons_append, List.nil_append] at F))
                | ((with_reducible refine Hp.wpl_alloc Try.z_ev sh ?_ ?_); exact rfl; clear sh; (try clear F); go_simp; intro b w1 sh; have F := sh.facts; (try simp only [Hp.Facts, Hp.CellsAt, Nat.reduceAdd, List.cons_append, List.nil_append] at F))
                | ((with_reducible refine Hp.atl_store ?_ ?_); exact rfl; (first | refine Hp.wp_store 0 sh rfl rfl rfl rfl (by kernel_rfl) (Nat.le_of_ble_eq_true rfl) rfl ?_ | refine Hp.wp_store 1 sh rfl rfl rfl rfl (by kernel_rfl) (Nat.le_of_ble_eq_true rfl) rfl ?_ | refine Hp.wp_store 2 sh rfl rfl rfl rfl (by kernel_rfl) (Nat.le_of_ble_eq_true rfl) rfl ?_ | refine Hp.wp_store 3 sh rfl rfl rfl rfl (by kernel_rfl) (Nat.le_of_ble_eq_true rfl) rfl ?_ | refine Hp.wp_store 4 sh rfl rfl rfl rfl (by kernel_rfl) (Nat.le_of_ble_eq_true rfl) rfl ?_ | refine Hp.wp_store 5 sh rfl rfl rfl rfl (by kernel_rfl) (Nat.le_of_ble_eq_true rfl) rfl ?_ | refine Hp.wp_store 6 sh rfl rfl rfl rfl (by kernel_rfl) (Nat.le_of_ble_eq_true rfl) rfl ?_); clear sh; (try clear F); go_simp; intro w1 sh; have F := sh.facts; (try simp only [Hp.Facts, Hp.CellsAt, Nat.reduceAdd, List.cons_append, List.nil_append] at F))
                | fail)
            go_ret2
            exact ⟨RT.out _ _ _ _ rfl rfl, sh.below⟩
          · go_enter Try.func28, Try.ntmps28
            have tok_bx : True := trivial
            go_wp2_with (first
                | ((have tok := tok_bx); clear tok tok_bx; (first | (with_reducible refine Hp.wpl_box sh ?_ ?_) | (with_reducible refine Hp.wpl_alloc Try.z_ev sh ?_ ?_)); exact rfl; clear sh; (try clear F); go_simp; intro bx w1 sh; have F := sh.facts; (try simp only [Hp.Facts, Hp.CellsAt, Nat.reduceAdd, List.cons_append, List.nil_append] at F))
                | ((with_reducible refine Hp.wpl_box sh ?_ ?_); exact rfl; clear sh; (try clear F); go_simp; intro b w1 sh; have F := sh.facts; (try simp only [Hp.Facts, Hp.CellsAt, Nat.reduceAdd, List.cons_append, List.nil_append] at F))
                | ((with_reducible refine Hp.wpl_alloc Try.z_ev sh ?_ ?_); exact rfl; clear sh; (try clear F); go_simp; intro b w1 sh; have F := sh.facts; (try simp only [Hp.Facts, Hp.CellsAt, Nat.reduceAdd, List.cons_append, List.nil_append] at F))
                | ((with_reducible refine Hp.atl_store ?_ ?_); exact rfl; (first | refine Hp.wp_store 0 sh rfl rfl rfl rfl (by kernel_rfl) (Nat.le_of_ble_eq_true rfl) rfl ?_ | refine Hp.wp_store 1 sh rfl rfl rfl rfl (by kernel_rfl) (Nat.le_of_ble_eq_true rfl) rfl ?_ | refine Hp.wp_store 2 sh rfl rfl rfl rfl (by kernel_rfl) (Nat.le_of_ble_eq_true rfl) rfl ?_ | refine Hp.wp_store 3 sh rfl rfl rfl rfl (by kernel_rfl) (Nat.le_of_ble_eq_true rfl) rfl ?_ | refine Hp.wp_store 4 sh rfl rfl rfl rfl (by kernel_rfl) (Nat.le_of_ble_eq_true rfl) rfl ?_ | refine Hp.wp_store 5 sh rfl rfl rfl rfl (by kernel_rfl) (Nat.le_of_ble_eq_true rfl) rfl ?_ | refine Hp.wp_store 6 sh rfl rfl rfl rfl (by kernel_rfl) (Nat.le_of_ble_eq_true rfl) rfl ?_); clear sh; (try clear F); go_simp; intro w1 sh; have F := sh.facts; (try simp only [Hp.Facts, Hp.CellsAt, Nat.reduceAdd, List.cons_append, List.nil_append] at F))
                | fail)
            go_ret2
            exact ⟨RT.out _ _ _ _ rfl rfl, sh.below⟩
        · clear g2
          rcases g3 with ⟨g3, g4⟩ | g3
          · have g5 : ¬ p ≤ 31 := by omega
            go_enter Try.func28, Try.ntmps28
            have tok_bx : True := trivial
            go_wp2_with (first
                | ((have tok := tok_bx); clear tok tok_bx; (first | (with_reducible refine Hp.wpl_box sh ?_ ?_) | (with_reducible refine Hp.wpl_alloc Try.z_ev sh ?_ ?_)); exact rfl; clear sh; (try clear F); go_simp; intro bx w1 sh; have F := sh.facts; (try simp only [Hp.Facts, Hp.CellsAt, Nat.reduceAdd, List.cons_append, List.nil_append] at F))
                | ((with_reducible refine Hp.wpl_box sh ?_ ?_); exact rfl; clear sh; (try clear F); go_simp; intro b w1 sh; have F := sh.facts; (try simp only [Hp.Facts, Hp.CellsAt, Nat.reduceAdd, List.cons_append, List.nil_append] at F))
                | ((with_reducible refine Hp.wpl_alloc Try.z_ev sh ?_ ?_); exact rfl; clear sh; (try clear F); go_simp; intro b w1 sh; have F := sh.facts; (try simp only [Hp.Facts, Hp.CellsAt, Nat.reduceAdd, List.cons_append, List.nil_append] at F))
                | ((with_reducible refine Hp.atl_store ?_ ?_); exact rfl; (first | refine Hp.wp_store 0 sh rfl rfl rfl rfl (by kernel_rfl) (Nat.le_of_ble_eq_true rfl) rfl ?_ | refine Hp.wp_store 1 sh rfl rfl rfl rfl (by kernel_rfl) (Nat.le_of_ble_eq_true rfl) rfl ?_ | refine Hp.wp_store 2 sh rfl rfl rfl rfl (by kernel_rfl) (Nat.le_of_ble_eq_true rfl) rfl ?_ | refine Hp.wp_store 3 sh rfl rfl rfl rfl (by kernel_rfl) (Nat.le_of_ble_eq_true rfl) rfl ?_ | refine Hp.wp_store 4 sh rfl rfl rfl rfl (by kernel_rfl) (Nat.le_of_ble_eq_true rfl) rfl ?_ | refine Hp.wp_store 5 sh rfl rfl rfl rfl (by kernel_rfl) (Nat.le_of_ble_eq_true rfl) rfl ?_ | refine Hp.wp_store 6 sh rfl rfl rfl rfl (by kernel_rfl) (Nat.le_of_ble_eq_true rfl) rfl ?_); clear sh; (try clear F); go_simp; intro w1 sh; have F := sh.facts; (try simp only [Hp.Facts, Hp.CellsAt, Nat.reduceAdd, List.cons_append, List.nil_append] at F))
                | fail)
            go_ret2
            exact ⟨RT.out _ _ _ _ rfl rfl, sh.below⟩
          · go_enter Try.func28, Try.ntmps28
            have tok_bx : True := trivial
            go_wp2_with (first
                | ((have tok := tok_bx); clear tok tok_bx; (first | (with_reducible refine Hp.wpl_box sh ?_ ?_) | (with_reducible refine Hp.wpl_alloc Try.z_ev sh ?_ ?_)); exact rfl; clear sh; (try clear F); go_simp; intro bx w1 sh; have F := sh.facts; (try simp only [Hp.Facts, Hp.CellsAt, Nat.reduceAdd, List.cons_append, List.nil_append] at F))
                | ((with_reducible refine Hp.wpl_box sh ?_ ?_); exact rfl; clear sh; (try clear F); go_simp; intro b w1 sh; have F := sh.facts; (try simp only [Hp.Facts, Hp.CellsAt, Nat.reduceAdd, List.cons_append, List.nil_append] at F))
                | ((with_reducible refine Hp.wpl_alloc Try.z_ev sh ?_ ?_); exact rfl; clear sh; (try clear F); go_simp; intro b w1 sh; have F := sh.facts; (try simp only [Hp.Facts, Hp.CellsAt, Nat.reduceAdd, List.cons_append, List.nil_append] at F))
                | ((with_reducible refine Hp.atl_store ?_ ?_); exact rfl; (first | refine Hp.wp_store 0 sh rfl rfl rfl rfl (by kernel_rfl) (Nat.le_of_ble_eq_true rfl) rfl ?_ | refine Hp.wp_store 1 sh rfl rfl rfl rfl (by kernel_rfl) (Nat.le_of_ble_eq_true rfl) rfl ?_ | refine Hp.wp_store 2 sh rfl rfl rfl rfl (by kernel_rfl) (Nat.le_of_ble_eq_true rfl) rfl ?_ | refine Hp.wp_store 3 sh rfl rfl rfl rfl (by kernel_rfl) (Nat.le_of_ble_eq_true rfl) rfl ?_ | refine Hp.wp_store 4 sh rfl rfl rfl rfl (by kernel_rfl) (Nat.le_of_ble_eq_true rfl) rfl ?_ | refine Hp.wp_store 5 sh rfl rfl rfl rfl (by kernel_rfl) (Nat.le_of_ble_eq_true rfl) rfl ?_ | refine Hp.wp_store 6 sh rfl rfl rfl rfl (by kernel_rfl) (Nat.le_of_ble_eq_true rfl) rfl ?_); clear sh; (try clear F); go_simp; intro w1 sh; have F := sh.facts; (try simp only [Hp.Facts, Hp.CellsAt, Nat.reduceAdd, List.cons_append, List.nil_append] at F))
                | fail)
            go_ret2
            exact ⟨RT.out _ _ _ _ rfl rfl, sh.below⟩
    refine key ?_
    omega

end Go.Proofs.Ytedcnoajadnhnaa