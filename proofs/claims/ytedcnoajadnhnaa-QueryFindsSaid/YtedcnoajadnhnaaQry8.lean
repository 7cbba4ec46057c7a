
/-
  The walk of Find.
-/
import Derived.Test.YtedcnoajadnhnaaQry7
namespace Go.Proofs.Ytedcnoajadnhnaa
open Go.RowKit
set_option linter.unusedVariables false
set_option linter.unusedSimpArgs false


set_option maxHeartbeats 4000000 in
set_option maxRecDepth 100000 in
theorem qfind (f u lo hi ps ks mo : Int) (hf : 0 ≤ f ∧ f ≤ 18446744073709551615) (hu : 0 ≤ u ∧ u ≤ 18446744073709551615) (hlo : -9223372036854775808 ≤ lo ∧ lo ≤ 9223372036854775807) (hhi : -9223372036854775808 ≤ hi ∧ hi ≤ 9223372036854775807) (hps : 0 ≤ ps ∧ ps ≤ 18446744073709551615) (hks : 0 ≤ ks ∧ ks ≤ 18446744073709551615) (hmo : -9223372036854775808 ≤ mo ∧ mo ≤ 9223372036854775807) (s0 : Option Addr) (l : List EvP.Ev) (n c : Nat) (hn : n = l.length) (hnc : n ≤ c) (hcm : c ≤ 9223372036854775807) (hm : n ≤ 100000) (hE : ∀ x ∈ l, EvP.EvB x) (s1 : Option Addr) (bs : List QryP.Bk) (nb cb : Nat) (hnb : nb = bs.length) (hnbc : nb ≤ cb) (hmb : nb ≤ 100000) (hB : ∀ x ∈ bs, QryP.BkB x) (w : World) (hR : Hp.RdV w s0 (l.flatMap EvP.evc)) (hR2 : Hp.RdV w s1 (bs.flatMap QryP.bc)) :
    Calls Try.prog 15 #[.agg #[.int .u64 f, .int .u64 u, .int .i64 lo, .int .i64 hi, .int .u64 ps, .int .u64 ks, .int .i64 mo], .slice s0 n c, .slice s1 nb cb] w fun e w' => QryP.FindP (QryP.find (f, u, lo, hi, ps, ks, mo) l bs) w e w' := by
  have sh := (Hp.Sh.start ((RdV_rob hR).and (RdV_rob hR2)) : Hp.Sh w w [] (fun W => Hp.RdV W s0 (l.flatMap EvP.evc) ∧ Hp.RdV W s1 (bs.flatMap QryP.bc)))
  have KC := Lib.hid (fun W q => qcover n (by omega) (by omega) s1 bs nb cb hnb hnbc hmb hB W q)
  have KG := Lib.hid (fun (a m : Nat) (h : a + m ≤ n) (w1 : World) (H R : List Hp.Blk) (v : Value) (T : List EvP.Ev) (hT : T.length ≤ 100000) (sh : Hp.Sh w w1 (R ++ H) (fun W => Hp.RdV W s0 (l.flatMap EvP.evc) ∧ Hp.RdV W s1 (bs.flatMap QryP.bc))) (hr : Hp.RowIs 26 6 v T.length (T.flatMap EvP.evc) R) =>
    qgather f u lo hi ps ks mo hf hu hlo hhi hps hks hmo (Hp.cut s0 a c 6) ((l.drop a).take m) m (c - a) (by rw [List.length_take, List.length_drop]; omega) (by omega) (by omega) (fun x hx => hE x (List.mem_of_mem_drop (List.mem_of_mem_take hx))) (fun W q => QryP.cut_rdv q.1 a m (by omega)) hT sh hr)
  have HN := Lib.hid hn
  have HL := Lib.hid hnb
  have HB := Lib.hid hB
  rw [hn] at KC
  clear hn hnb hE hB hR hR2
  cases hcov : QryP.cover (l.length : Int) bs with
  | false =>
    rw [hcov] at KC
    have HC := Lib.hid hcov
    clear hcov
    rw [← HN.out] at KC
    go_enter Try.func15, Try.ntmps15
    have F := sh.facts; (try simp only [Hp.Facts, Hp.CellsAt, Nat.reduceAdd, List.cons_append, List.nil_append] at F)
    have tok_bq : True := trivial
    go_wp2_with (first
        | ((have tok := tok_bq); clear tok tok_bq; (first | (with_reducible refine Hp.wpl_box sh ?_ ?_) | (with_reducible refine Hp.wpl_alloc Try.z_ev sh ?_ ?_) | (with_reducible refine Hp.wpl_alloc Try.z_blk sh ?_ ?_)); exact rfl; clear sh; (try clear F); go_simp; intro bq w1 sh; have F := sh.facts; (try simp only [Hp.Facts, Hp.CellsAt, Nat.reduceAdd, List.cons_append, List.nil_append] at F))
        | ((with_reducible refine Hp.wpl_box sh ?_ ?_); exact rfl; clear sh; (try clear F); go_simp; intro b w1 sh; have F := sh.facts; (try simp only [Hp.Facts, Hp.CellsAt, Nat.reduceAdd, List.cons_append, List.nil_append] at F))
        | ((with_reducible refine Hp.wpl_alloc Try.z_ev sh ?_ ?_); exact rfl; clear sh; (try clear F); go_simp; intro b w1 sh; have F := sh.facts; (try simp only [Hp.Facts, Hp.CellsAt, Nat.reduceAdd, List.cons_append, List.nil_append] at F))
        | ((with_reducible refine Hp.wpl_alloc Try.z_blk sh ?_ ?_); exact rfl; clear sh; (try clear F); go_simp; intro b w1 sh; have F := sh.facts; (try simp only [Hp.Facts, Hp.CellsAt, Nat.reduceAdd, List.cons_append, List.nil_append] at F))
        | ((with_reducible refine Hp.atl_store ?_ ?_); exact rfl; (first | refine Hp.wp_store 0 sh rfl rfl rfl rfl (by kernel_rfl) (Nat.le_of_ble_eq_true rfl) rfl ?_ | refine Hp.wp_store 1 sh rfl rfl rfl rfl (by kernel_rfl) (Nat.le_of_ble_eq_true rfl) rfl ?_ | refine Hp.wp_store 2 sh rfl rfl rfl rfl (by kernel_rfl) (Nat.le_of_ble_eq_true rfl) rfl ?_ | refine Hp.wp_store 3 sh rfl rfl rfl rfl (by kernel_rfl) (Nat.le_of_ble_eq_true rfl) rfl ?_ | refine Hp.wp_store 4 sh rfl rfl rfl rfl (by kernel_rfl) (Nat.le_of_ble_eq_true rfl) rfl ?_ | refine Hp.wp_store 5 sh rfl rfl rfl rfl (by kernel_rfl) (Nat.le_of_ble_eq_true rfl) rfl ?_ | refine Hp.wp_store 6 sh rfl rfl rfl rfl (by kernel_rfl) (Nat.le_of_ble_eq_true rfl) rfl ?_); clear sh; (try clear F); go_simp; intro w1 sh; have F := sh.facts; (try simp only [Hp.Facts, Hp.CellsAt, Nat.reduceAdd, List.cons_append, List.nil_append] at F))
        | fail)
    go_fit (KC.out _ sh.data.2)
    rintro e w1 ⟨rfl, hb⟩
    replace sh := sh.call hb; clear hb; (try clear F); have F := sh.facts; (try simp only [Hp.Facts, Hp.CellsAt, Nat.reduceAdd, List.cons_append, List.nil_append] at F)
    go_wp2_with (first
        | ((with_reducible refine Hp.wpl_box sh ?_ ?_); exact rfl; clear sh; (try clear F); go_simp; intro b w1 sh; have F := sh.facts; (try simp only [Hp.Facts, Hp.CellsAt, Nat.reduceAdd, List.cons_append, List.nil_append] at F))
        | ((with_reducible refine Hp.wpl_alloc Try.z_ev sh ?_ ?_); exact rfl; clear sh; (try clear F); go_simp; intro b w1 sh; have F := sh.facts; (try simp only [Hp.Facts, Hp.CellsAt, Nat.reduceAdd, List.cons_append, List.nil_append] at F))
        | ((with_reducible refine Hp.wpl_alloc Try.z_blk sh ?_ ?_); exact rfl; clear sh; (try clear F); go_simp; intro b w1 sh; have F := sh.facts; (try simp only [Hp.Facts, Hp.CellsAt, Nat.reduceAdd, List.cons_append, List.nil_append] at F))
        | ((with_reducible refine Hp.atl_store ?_ ?_); exact rfl; (first | refine Hp.wp_store 0 sh rfl rfl rfl rfl (by kernel_rfl) (Nat.le_of_ble_eq_true rfl) rfl ?_ | refine Hp.wp_store 1 sh rfl rfl rfl rfl (by kernel_rfl) (Nat.le_of_ble_eq_true rfl) rfl ?_ | refine Hp.wp_store 2 sh rfl rfl rfl rfl (by kernel_rfl) (Nat.le_of_ble_eq_true rfl) rfl ?_ | refine Hp.wp_store 3 sh rfl rfl rfl rfl (by kernel_rfl) (Nat.le_of_ble_eq_true rfl) rfl ?_ | refine Hp.wp_store 4 sh rfl rfl rfl rfl (by kernel_rfl) (Nat.le_of_ble_eq_true rfl) rfl ?_ | refine Hp.wp_store 5 sh rfl rfl rfl rfl (by kernel_rfl) (Nat.le_of_ble_eq_true rfl) rfl ?_ | refine Hp.wp_store 6 sh rfl rfl rfl rfl (by kernel_rfl) (Nat.le_of_ble_eq_true rfl) rfl ?_); clear sh; (try clear F); go_simp; intro w1 sh; have F := sh.facts; (try simp only [Hp.Facts, Hp.CellsAt, Nat.reduceAdd, List.cons_append, List.nil_append] at F))
        | fail)
    go_ret3
    exact QryP.FindP.none HC.out sh.below rfl
  | true =>
    rw [hcov] at KC
    have HF := Lib.hid (show QryP.find (f, u, lo, hi, ps, ks, mo) l bs = (QryP.findN (f, u, lo, hi, ps, ks, mo) l bs ([], 0), 0) by unfold QryP.find; rw [if_pos hcov])
    have HC := Lib.hid (show QryP.coverN (n : Int) 0 bs = true by rw [HN.out]; exact hcov)
    clear hcov
    rw [← HN.out] at KC
    go_enter Try.func15, Try.ntmps15
    have F := sh.facts; (try simp only [Hp.Facts, Hp.CellsAt, Nat.reduceAdd, List.cons_append, List.nil_append] at F)
    have tok_bq : True := trivial
    go_wp2_with (first
        | ((have tok := tok_bq); clear tok tok_bq; (first | (with_reducible refine Hp.wpl_box sh ?_ ?_) | (with_reducible refine Hp.wpl_alloc Try.z_ev sh ?_ ?_) | (with_reducible refine Hp.wpl_alloc Try.z_blk sh ?_ ?_)); exact rfl; clear sh; (try clear F); go_simp; intro bq w1 sh; have F := sh.facts; (try simp only [Hp.Facts, Hp.CellsAt, Nat.reduceAdd, List.cons_append, List.nil_append] at F))
        | ((with_reducible refine Hp.wpl_box sh ?_ ?_); exact rfl; clear sh; (try clear F); go_simp; intro b w1 sh; have F := sh.facts; (try simp only [Hp.Facts, Hp.CellsAt, Nat.reduceAdd, List.cons_append, List.nil_append] at F))
        | ((with_reducible refine Hp.wpl_alloc Try.z_ev sh ?_ ?_); exact rfl; clear sh; (try clear F); go_simp; intro b w1 sh; have F := sh.facts; (try simp only [Hp.Facts, Hp.CellsAt, Nat.reduceAdd, List.cons_append, List.nil_append] at F))
        | ((with_reducible refine Hp.wpl_alloc Try.z_blk sh ?_ ?_); exact rfl; clear sh; (try clear F); go_simp; intro b w1 sh; have F := sh.facts; (try simp only [Hp.Facts, Hp.CellsAt, Nat.reduceAdd, List.cons_append, List.nil_append] at F))
        | ((with_reducible refine Hp.atl_store ?_ ?_); exact rfl; (first | refine Hp.wp_store 0 sh rfl rfl rfl rfl (by kernel_rfl) (Nat.le_of_ble_eq_true rfl) rfl ?_ | refine Hp.wp_store 1 sh rfl rfl rfl rfl (by kernel_rfl) (Nat.le_of_ble_eq_true rfl) rfl ?_ | refine Hp.wp_store 2 sh rfl rfl rfl rfl (by kernel_rfl) (Nat.le_of_ble_eq_true rfl) rfl ?_ | refine Hp.wp_store 3 sh rfl rfl rfl rfl (by kernel_rfl) (Nat.le_of_ble_eq_true rfl) rfl ?_ | refine Hp.wp_store 4 sh rfl rfl rfl rfl (by kernel_rfl) (Nat.le_of_ble_eq_true rfl) rfl ?_ | refine Hp.wp_store 5 sh rfl rfl rfl rfl (by kernel_rfl) (Nat.le_of_ble_eq_true rfl) rfl ?_ | refine Hp.wp_store 6 sh rfl rfl rfl rfl (by kernel_rfl) (Nat.le_of_ble_eq_true rfl) rfl ?_); clear sh; (try clear F); go_simp; intro w1 sh; have F := sh.facts; (try simp only [Hp.Facts, Hp.CellsAt, Nat.reduceAdd, List.cons_append, List.nil_append] at F))
        | fail)
    go_fit (KC.out _ sh.data.2)
    rintro e w1 ⟨rfl, hb⟩
    replace sh := sh.call hb; clear hb; (try clear F); have F := sh.facts; (try simp only [Hp.Facts, Hp.CellsAt, Nat.reduceAdd, List.cons_append, List.nil_append] at F)
    go_wp2_with (first
        | ((with_reducible refine Hp.wpl_box sh ?_ ?_); exact rfl; clear sh; (try clear F); go_simp; intro b w1 sh; have F := sh.facts; (try simp only [Hp.Facts, Hp.CellsAt, Nat.reduceAdd, List.cons_append, List.nil_append] at F))
        | ((with_reducible refine Hp.wpl_alloc Try.z_ev sh ?_ ?_); exact rfl; clear sh; (try clear F); go_simp; intro b w1 sh; have F := sh.facts; (try simp only [Hp.Facts, Hp.CellsAt, Nat.reduceAdd, List.cons_append, List.nil_append] at F))
        | ((with_reducible refine Hp.wpl_alloc Try.z_blk sh ?_ ?_); exact rfl; clear sh; (try clear F); go_simp; intro b w1 sh; have F := sh.facts; (try simp only [Hp.Facts, Hp.CellsAt, Nat.reduceAdd, List.cons_append, List.nil_append] at F))
        | ((with_reducible refine Hp.atl_store ?_ ?_); exact rfl; (first | refine Hp.wp_store 0 sh rfl rfl rfl rfl (by kernel_rfl) (Nat.le_of_ble_eq_true rfl) rfl ?_ | refine Hp.wp_store 1 sh rfl rfl rfl rfl (by kernel_rfl) (Nat.le_of_ble_eq_true rfl) rfl ?_ | refine Hp.wp_store 2 sh rfl rfl rfl rfl (by kernel_rfl) (Nat.le_of_ble_eq_true rfl) rfl ?_ | refine Hp.wp_store 3 sh rfl rfl rfl rfl (by kernel_rfl) (Nat.le_of_ble_eq_true rfl) rfl ?_ | refine Hp.wp_store 4 sh rfl rfl rfl rfl (by kernel_rfl) (Nat.le_of_ble_eq_true rfl) rfl ?_ | refine Hp.wp_store 5 sh rfl rfl rfl rfl (by kernel_rfl) (Nat.le_of_ble_eq_true rfl) rfl ?_ | refine Hp.wp_store 6 sh rfl rfl rfl rfl (by kernel_rfl) (Nat.le_of_ble_eq_true rfl) rfl ?_); clear sh; (try clear F); go_simp; intro w1 sh; have F := sh.facts; (try simp only [Hp.Facts, Hp.CellsAt, Nat.reduceAdd, List.cons_append, List.nil_append] at F))
        | fail)
    go_loopw [9, 10, 21] (fun v t i wr => ∃ (k N a : Nat) (R : List Hp.Blk) (Tk : List EvP.Ev), t = .int .i64 N ∧ i = .int .i64 k ∧ k ≤ nb ∧ N ≤ a ∧ a ≤ n ∧ Tk.length ≤ a ∧ Hid (Hp.RowIs 26 6 v Tk.length (Tk.flatMap EvP.evc) R ∧ QryP.coverN (n : Int) (a : Int) (bs.drop k) = true ∧ QryP.findN (f, u, lo, hi, ps, ks, mo) l bs ([], 0) = QryP.findN (f, u, lo, hi, ps, ks, mo) l (bs.drop k) (Tk, N)) ∧ Hp.Sh w wr ((bq, #[.int .u64 f, .int .u64 u, .int .i64 lo, .int .i64 hi, .int .u64 ps, .int .u64 ks, .int .i64 mo], 24) :: R) (fun W => Hp.RdV W s0 (l.flatMap EvP.evc) ∧ Hp.RdV W s1 (bs.flatMap QryP.bc))) (fun _ _ i _ => nb - (intOf i).toNat)
    case atStart => exact ⟨0, 0, 0, [], [], rfl, rfl, by omega, by omega, by omega, by simp, ⟨Hp.RowIs.nil 26 6, HC.out, rfl⟩, sh⟩
    case round =>
      clear sh F
      obtain ⟨k, N, a, R, Tk, rfl, rfl, hk, hN, ha, htk, HK, sh⟩ := hrel
      have HR := Lib.hid HK.out.1
      obtain ⟨sv, cv, rfl, -, -, -⟩ := HR.out.slice
      by_cases hlt : k < nb
      · have hlI : (k : Int) < (nb : Int) := by omega
        have hkL : k < bs.length := by rw [← HL.out]; exact hlt
        obtain ⟨pp, hp, -⟩ := sh.data.2 (Hp.flat_pos QryP.bc_len (by decide) hkL)
        subst hp
        rcases hx : bs[k] with ⟨at_, mn, fs, lw, hg, bp, bk⟩
        have hb := HB.out _ (List.getElem_mem hkL)
        rw [hx] at hb
        obtain ⟨hat, hmn, hfs, hlw, hhg, hbp, hbk⟩ := hb
        dsimp only at hat hmn hfs hlw hhg hbp hbk
        have HX := Lib.hid hx
        have HD := Lib.hid (show bs.drop k = (at_, mn, fs, lw, hg, bp, bk) :: bs.drop (k + 1) by rw [QryP.dropB_get hkL, hx])
        rw [HD.out] at HK
        have hcv := QryP.cov_back HK.out.2.1
        dsimp only at hcv
        obtain ⟨r1, r2, r3, r4⟩ := hcv
        have HCN := Lib.hid r4
        clear r4
        obtain ⟨m, hm2⟩ : ∃ m : Nat, mn = (m : Int) := ⟨mn.toNat, by omega⟩
        subst r1 hm2
        have K := Lib.hid (fun W => qmay f u lo hi ps ks mo (a : Int) (m : Int) fs lw hg bp bk W hat hmn hfs hlw hhg hbp hbk)
        have HCB := Lib.hid (fun W (q : Hp.RdV W (some pp) (bs.flatMap QryP.bc)) => QryP.bk_cells q hkL HX.out)
        have HS := Lib.hid (show ((a : Int) + (m : Int)) = ((a + m : Nat) : Int) by omega)
        have r5 : a + m ≤ n := by omega
        have r6 : 1 ≤ m := by omega
        clear r2 r3 hat hmn hfs hlw hhg hbp hbk hx
        cases hmy : QryP.may (f, u, lo, hi, ps, ks, mo) ((a : Int), (m : Int), fs, lw, hg, bp, bk) with
        | false =>
          rw [hmy] at K
          have HFn := Lib.hid (QryP.find_no (l := l) (r := bs.drop (k + 1)) (s := (Tk, N)) hmy)
          clear hmy
          obtain ⟨q0, q1, q2, q3, q4, q5, q6⟩ := HCB.out _ sh.data.2
          have F := sh.facts; (try simp only [Hp.Facts, Hp.CellsAt, Nat.reduceAdd, List.cons_append, List.nil_append] at F)
          have tok_bx : True := trivial
          go_wp2_with (first
              | ((have tok := tok_bx); clear tok tok_bx; (first | (with_reducible refine Hp.wpl_box sh ?_ ?_) | (with_reducible refine Hp.wpl_alloc Try.z_ev sh ?_ ?_) | (with_reducible refine Hp.wpl_alloc Try.z_blk sh ?_ ?_)); exact rfl; clear sh; (try clear F); go_simp; intro bx w1 sh; have F := sh.facts; (try simp only [Hp.Facts, Hp.CellsAt, Nat.reduceAdd, List.cons_append, List.nil_append] at F))
              | ((with_reducible refine Hp.wpl_box sh ?_ ?_); exact rfl; clear sh; (try clear F); go_simp; intro b w1 sh; have F := sh.facts; (try simp only [Hp.Facts, Hp.CellsAt, Nat.reduceAdd, List.cons_append, List.nil_append] at F))
              | ((with_reducible refine Hp.wpl_alloc Try.z_ev sh ?_ ?_); exact rfl; clear sh; (try clear F); go_simp; intro b w1 sh; have F := sh.facts; (try simp only [Hp.Facts, Hp.CellsAt, Nat.reduceAdd, List.cons_append, List.nil_append] at F))
              | ((with_reducible refine Hp.wpl_alloc Try.z_blk sh ?_ ?_); exact rfl; clear sh; (try clear F); go_simp; intro b w1 sh; have F := sh.facts; (try simp only [Hp.Facts, Hp.CellsAt, Nat.reduceAdd, List.cons_append, List.nil_append] at F))
              | ((with_reducible refine Hp.atl_store ?_ ?_); exact rfl; (first | refine Hp.wp_store 0 sh rfl rfl rfl rfl (by kernel_rfl) (Nat.le_of_ble_eq_true rfl) rfl ?_ | refine Hp.wp_store 1 sh rfl rfl rfl rfl (by kernel_rfl) (Nat.le_of_ble_eq_true rfl) rfl ?_ | refine Hp.wp_store 2 sh rfl rfl rfl rfl (by kernel_rfl) (Nat.le_of_ble_eq_true rfl) rfl ?_ | refine Hp.wp_store 3 sh rfl rfl rfl rfl (by kernel_rfl) (Nat.le_of_ble_eq_true rfl) rfl ?_ | refine Hp.wp_store 4 sh rfl rfl rfl rfl (by kernel_rfl) (Nat.le_of_ble_eq_true rfl) rfl ?_ | refine Hp.wp_store 5 sh rfl rfl rfl rfl (by kernel_rfl) (Nat.le_of_ble_eq_true rfl) rfl ?_ | refine Hp.wp_store 6 sh rfl rfl rfl rfl (by kernel_rfl) (Nat.le_of_ble_eq_true rfl) rfl ?_); clear sh; (try clear F); go_simp; intro w1 sh; have F := sh.facts; (try simp only [Hp.Facts, Hp.CellsAt, Nat.reduceAdd, List.cons_append, List.nil_append] at F))
              | fail)
          go_fit (K.out _)
          rintro e w1 ⟨rfl, hb⟩
          replace sh := sh.call hb; clear hb; (try clear F); have F := sh.facts; (try simp only [Hp.Facts, Hp.CellsAt, Nat.reduceAdd, List.cons_append, List.nil_append] at F)
          clear q0 q1 q2 q3 q4 q5 q6
          go_wp2_with (first
              | ((with_reducible refine Hp.wpl_box sh ?_ ?_); exact rfl; clear sh; (try clear F); go_simp; intro b w1 sh; have F := sh.facts; (try simp only [Hp.Facts, Hp.CellsAt, Nat.reduceAdd, List.cons_append, List.nil_append] at F))
              | ((with_reducible refine Hp.wpl_alloc Try.z_ev sh ?_ ?_); exact rfl; clear sh; (try clear F); go_simp; intro b w1 sh; have F := sh.facts; (try simp only [Hp.Facts, Hp.CellsAt, Nat.reduceAdd, List.cons_append, List.nil_append] at F))
              | ((with_reducible refine Hp.wpl_alloc Try.z_blk sh ?_ ?_); exact rfl; clear sh; (try clear F); go_simp; intro b w1 sh; have F := sh.facts; (try simp only [Hp.Facts, Hp.CellsAt, Nat.reduceAdd, List.cons_append, List.nil_append] at F))
              | ((with_reducible refine Hp.atl_store ?_ ?_); exact rfl; (first | refine Hp.wp_store 0 sh rfl rfl rfl rfl (by kernel_rfl) (Nat.le_of_ble_eq_true rfl) rfl ?_ | refine Hp.wp_store 1 sh rfl rfl rfl rfl (by kernel_rfl) (Nat.le_of_ble_eq_true rfl) rfl ?_ | refine Hp.wp_store 2 sh rfl rfl rfl rfl (by kernel_rfl) (Nat.le_of_ble_eq_true rfl) rfl ?_ | refine Hp.wp_store 3 sh rfl rfl rfl rfl (by kernel_rfl) (Nat.le_of_ble_eq_true rfl) rfl ?_ | refine Hp.wp_store 4 sh rfl rfl rfl rfl (by kernel_rfl) (Nat.le_of_ble_eq_true rfl) rfl ?_ | refine Hp.wp_store 5 sh rfl rfl rfl rfl (by kernel_rfl) (Nat.le_of_ble_eq_true rfl) rfl ?_ | refine Hp.wp_store 6 sh rfl rfl rfl rfl (by kernel_rfl) (Nat.le_of_ble_eq_true rfl) rfl ?_); clear sh; (try clear F); go_simp; intro w1 sh; have F := sh.facts; (try simp only [Hp.Facts, Hp.CellsAt, Nat.reduceAdd, List.cons_append, List.nil_append] at F))
              | fail)
          go_roundw
          case rel => exact ⟨k + 1, N, a + m, R, Tk, rfl, by go_num, by omega, by omega, by omega, by omega, ⟨HR.out, by have := HCN.out; rw [HS.out] at this; exact this, by rw [HK.out.2.2, HFn.out]⟩, sh.drop1⟩
          case measure => simp [intOf]; omega
        | true =>
          rw [hmy] at K
          have HFy := Lib.hid (QryP.find_yes (l := l) (r := bs.drop (k + 1)) (s := (Tk, N)) (a := a) (m := m) hmy rfl rfl)
          have HLn := QryP.gath_len (f, u, lo, hi, ps, ks, mo) ((l.drop a).take m) Tk
          have hlt2 : ((l.drop a).take m).length ≤ m := by rw [List.length_take]; omega
          clear hmy
          dsimp only at HFy
          have htk2 : Tk.length ≤ 100000 := by omega
          have KG2 := Lib.hid (fun (w1 : World) (H R : List Hp.Blk) (v : Value) (sh : Hp.Sh w w1 (R ++ H) (fun W => Hp.RdV W s0 (l.flatMap EvP.evc) ∧ Hp.RdV W (some pp) (bs.flatMap QryP.bc))) (hr : Hp.RowIs 26 6 v Tk.length (Tk.flatMap EvP.evc) R) => KG.out a m r5 w1 H R v Tk htk2 sh hr)
          generalize QryP.gath (f, u, lo, hi, ps, ks, mo) ((l.drop a).take m) Tk = G at KG2 HFy HLn
          have hg1 : G.1.length ≤ a + m := by omega
          have hg2 : N + G.2 ≤ a + m := by omega
          have z1 : IntKind.i64.wrap ((a : Int) + (m : Int)) = ((a + m : Nat) : Int) := by rw [IntWalk.i64_in _ (by omega)]; omega
          have hac : a + m ≤ c := by omega
          obtain ⟨q0, q1, q2, q3, q4, q5, q6⟩ := HCB.out _ sh.data.2
          have F := sh.facts; (try simp only [Hp.Facts, Hp.CellsAt, Nat.reduceAdd, List.cons_append, List.nil_append] at F)
          have tok_bx : True := trivial
          go_wp2_with (first
              | ((have tok := tok_bx); clear tok tok_bx; (first | (with_reducible refine Hp.wpl_box sh ?_ ?_) | (with_reducible refine Hp.wpl_alloc Try.z_ev sh ?_ ?_) | (with_reducible refine Hp.wpl_alloc Try.z_blk sh ?_ ?_)); exact rfl; clear sh; (try clear F); go_simp; intro bx w1 sh; have F := sh.facts; (try simp only [Hp.Facts, Hp.CellsAt, Nat.reduceAdd, List.cons_append, List.nil_append] at F))
              | ((with_reducible refine Hp.wpl_box sh ?_ ?_); exact rfl; clear sh; (try clear F); go_simp; intro b w1 sh; have F := sh.facts; (try simp only [Hp.Facts, Hp.CellsAt, Nat.reduceAdd, List.cons_append, List.nil_append] at F))
              | ((with_reducible refine Hp.wpl_alloc Try.z_ev sh ?_ ?_); exact rfl; clear sh; (try clear F); go_simp; intro b w1 sh; have F := sh.facts; (try simp only [Hp.Facts, Hp.CellsAt, Nat.reduceAdd, List.cons_append, List.nil_append] at F))
              | ((with_reducible refine Hp.wpl_alloc Try.z_blk sh ?_ ?_); exact rfl; clear sh; (try clear F); go_simp; intro b w1 sh; have F := sh.facts; (try simp only [Hp.Facts, Hp.CellsAt, Nat.reduceAdd, List.cons_append, List.nil_append] at F))
              | ((with_reducible refine Hp.atl_store ?_ ?_); exact rfl; (first | refine Hp.wp_store 0 sh rfl rfl rfl rfl (by kernel_rfl) (Nat.le_of_ble_eq_true rfl) rfl ?_ | refine Hp.wp_store 1 sh rfl rfl rfl rfl (by kernel_rfl) (Nat.le_of_ble_eq_true rfl) rfl ?_ | refine Hp.wp_store 2 sh rfl rfl rfl rfl (by kernel_rfl) (Nat.le_of_ble_eq_true rfl) rfl ?_ | refine Hp.wp_store 3 sh rfl rfl rfl rfl (by kernel_rfl) (Nat.le_of_ble_eq_true rfl) rfl ?_ | refine Hp.wp_store 4 sh rfl rfl rfl rfl (by kernel_rfl) (Nat.le_of_ble_eq_true rfl) rfl ?_ | refine Hp.wp_store 5 sh rfl rfl rfl rfl (by kernel_rfl) (Nat.le_of_ble_eq_true rfl) rfl ?_ | refine Hp.wp_store 6 sh rfl rfl rfl rfl (by kernel_rfl) (Nat.le_of_ble_eq_true rfl) rfl ?_); clear sh; (try clear F); go_simp; intro w1 sh; have F := sh.facts; (try simp only [Hp.Facts, Hp.CellsAt, Nat.reduceAdd, List.cons_append, List.nil_append] at F))
              | fail)
          go_fit (K.out _)
          rintro e w1 ⟨rfl, hb⟩
          replace sh := sh.call hb; clear hb; (try clear F); have F := sh.facts; (try simp only [Hp.Facts, Hp.CellsAt, Nat.reduceAdd, List.cons_append, List.nil_append] at F)
          clear q0 q1 q2 q3 q4 q5 q6
          replace sh : Hp.Sh w _ (R ++ [_, _]) _ := Hp.Sh.front (A := [_, _]) sh
          go_wp2_with fail
          refine Hp.region_soft (by kernel_rfl) sh (fun _ q => Hp.Sh.dropA q) ?_; clear sh; (try clear F)
          (try simp only [])
          (refine Hp.soft_take (i := 0) (oi := ⟨some 30, Op.load 24 (Operand.tmp 3), _, _, _, none⟩) _ rfl (by kernel_rfl) (by kernel_rfl) (by kernel_rfl) (fun _ _ _ h => h) (fun _ q => Hp.Sh.dropA q) (by rfl) (fun W hW => by (have F := Hp.Sh.facts hW); (have hd := Hp.Sh.data hW); (try simp only [Hp.Facts, Hp.CellsAt, Nat.reduceAdd, List.cons_append, List.nil_append] at F); skip; go_simp; (try with_reducible rfl)) ?_; (try simp only [Act.put, List.setIfInBounds_toArray, List.set_cons_zero, List.set_cons_succ]))
          (refine Hp.soft_take (i := 1) (oi := ⟨some 31, Op.move (Operand.tmp 1), _, _, _, none⟩) _ rfl (by kernel_rfl) (by kernel_rfl) (by kernel_rfl) (fun _ _ _ h => h) (fun _ q => Hp.Sh.dropA q) (by rfl) (fun W hW => by go_simp; (try with_reducible rfl)) ?_; (try simp only [Act.put, List.setIfInBounds_toArray, List.set_cons_zero, List.set_cons_succ]))
          (refine Hp.soft_take (i := 2) (oi := ⟨some 32, Op.fieldAddr 28 (Operand.tmp 12) 0, _, _, _, none⟩) _ rfl (by kernel_rfl) (by kernel_rfl) (by kernel_rfl) (fun _ _ _ h => h) (fun _ q => Hp.Sh.dropA q) (by rfl) (fun W hW => by go_simp; (try with_reducible rfl)) ?_; (try simp only [Act.put, List.setIfInBounds_toArray, List.set_cons_zero, List.set_cons_succ]))
          (refine Hp.soft_take (i := 3) (oi := ⟨some 33, Op.load 3 (Operand.tmp 32), _, _, _, none⟩) _ rfl (by kernel_rfl) (by kernel_rfl) (by kernel_rfl) (fun _ _ _ h => h) (fun _ q => Hp.Sh.dropA q) (by rfl) (fun W hW => by (have F := Hp.Sh.facts hW); (have hd := Hp.Sh.data hW); (try simp only [Hp.Facts, Hp.CellsAt, Nat.reduceAdd, List.cons_append, List.nil_append] at F); skip; go_simp; (try with_reducible rfl)) ?_; (try simp only [Act.put, List.setIfInBounds_toArray, List.set_cons_zero, List.set_cons_succ]))
          (refine Hp.soft_take (i := 4) (oi := ⟨some 34, Op.fieldAddr 28 (Operand.tmp 12) 0, _, _, _, none⟩) _ rfl (by kernel_rfl) (by kernel_rfl) (by kernel_rfl) (fun _ _ _ h => h) (fun _ q => Hp.Sh.dropA q) (by rfl) (fun W hW => by go_simp; (try with_reducible rfl)) ?_; (try simp only [Act.put, List.setIfInBounds_toArray, List.set_cons_zero, List.set_cons_succ]))
          (refine Hp.soft_take (i := 5) (oi := ⟨some 35, Op.load 3 (Operand.tmp 34), _, _, _, none⟩) _ rfl (by kernel_rfl) (by kernel_rfl) (by kernel_rfl) (fun _ _ _ h => h) (fun _ q => Hp.Sh.dropA q) (by rfl) (fun W hW => by (have F := Hp.Sh.facts hW); (have hd := Hp.Sh.data hW); (try simp only [Hp.Facts, Hp.CellsAt, Nat.reduceAdd, List.cons_append, List.nil_append] at F); skip; go_simp; (try with_reducible rfl)) ?_; (try simp only [Act.put, List.setIfInBounds_toArray, List.set_cons_zero, List.set_cons_succ]))
          (refine Hp.soft_take (i := 6) (oi := ⟨some 36, Op.fieldAddr 28 (Operand.tmp 12) 1, _, _, _, none⟩) _ rfl (by kernel_rfl) (by kernel_rfl) (by kernel_rfl) (fun _ _ _ h => h) (fun _ q => Hp.Sh.dropA q) (by rfl) (fun W hW => by go_simp; (try with_reducible rfl)) ?_; (try simp only [Act.put, List.setIfInBounds_toArray, List.set_cons_zero, List.set_cons_succ]))
          (refine Hp.soft_take (i := 7) (oi := ⟨some 37, Op.load 3 (Operand.tmp 36), _, _, _, none⟩) _ rfl (by kernel_rfl) (by kernel_rfl) (by kernel_rfl) (fun _ _ _ h => h) (fun _ q => Hp.Sh.dropA q) (by rfl) (fun W hW => by (have F := Hp.Sh.facts hW); (have hd := Hp.Sh.data hW); (try simp only [Hp.Facts, Hp.CellsAt, Nat.reduceAdd, List.cons_append, List.nil_append] at F); skip; go_simp; (try with_reducible rfl)) ?_; (try simp only [Act.put, List.setIfInBounds_toArray, List.set_cons_zero, List.set_cons_succ]))
          (refine Hp.soft_take (i := 8) (oi := ⟨some 38, Op.binOp BinOp.add 3 (Operand.tmp 35) (Operand.tmp 37) 3, _, _, _, none⟩) _ rfl (by kernel_rfl) (by kernel_rfl) (by kernel_rfl) (fun _ _ _ h => h) (fun _ q => Hp.Sh.dropA q) (by rfl) (fun W hW => by go_simp; (try with_reducible rfl)) ?_; (try simp only [Act.put, List.setIfInBounds_toArray, List.set_cons_zero, List.set_cons_succ]))
          (refine Hp.soft_take (i := 9) (oi := ⟨some 39, Op.slice 33 (Operand.tmp 31) (some (Operand.tmp 33)) (some (Operand.tmp 38)) none, _, _, _, none⟩) _ rfl (by kernel_rfl) (by kernel_rfl) (by kernel_rfl) (fun _ _ _ h => h) (fun _ q => Hp.Sh.dropA q) (by rfl) (fun W hW => (Hp.exec_cut2 Try.underlying33 Try.s_evt a (a + m) rfl rfl rfl (by omega) hac)) ?_; (try simp only [Act.put, List.setIfInBounds_toArray, List.set_cons_zero, List.set_cons_succ]))
          (refine Hp.soft_take (i := 10) (oi := ⟨some 40, Op.move (Operand.tmp 9), _, _, _, none⟩) _ rfl (by kernel_rfl) (by kernel_rfl) (by kernel_rfl) (fun _ _ _ h => h) (fun _ q => Hp.Sh.dropA q) (by rfl) (fun W hW => by go_simp; (try with_reducible rfl)) ?_; (try simp only [Act.put, List.setIfInBounds_toArray, List.set_cons_zero, List.set_cons_succ]))
          refine Hp.soft_make (i := 11) (o := ⟨some 41, Op.call { callee := Callee.value (Operand.func 42), args := #[Operand.tmp 30, Operand.tmp 39, Operand.tmp 40], argTypes := #[24, 33, 33] }, _, _, _, none⟩) (by kernel_rfl) rfl (by rfl) (fun w1 sh K hK => ?_); (try clear F); (try have F := Hp.Sh.facts sh); (try simp only [Hp.Facts, Hp.CellsAt, Nat.reduceAdd, List.cons_append, List.nil_append] at F); (go_simp; go_fit (KG2.out _ _ _ _ sh HR.out); clear sh; rintro e w1 ⟨v1, R1, rfl, sh, hr⟩; have HR1 := Lib.hid hr; clear hr); refine hK _ _ _ _ _ _ (fun _ q => Hp.Sh.dropA q) (fun _ q => q) sh ?_; clear hK K; clear sh; (try clear F); (try simp only [Act.put, List.setIfInBounds_toArray, List.set_cons_zero, List.set_cons_succ])
          (refine Hp.soft_take (i := 12) (oi := ⟨some 29, Op.move (Operand.tmp 41), _, _, _, none⟩) _ rfl (by kernel_rfl) (by kernel_rfl) (by kernel_rfl) (fun _ _ _ h => h) (fun _ q => Hp.Sh.dropA q) (by rfl) (fun W hW => by go_simp; (try with_reducible rfl)) ?_; (try simp only [Act.put, List.setIfInBounds_toArray, List.set_cons_zero, List.set_cons_succ]))
          (refine Hp.soft_take (i := 13) (oi := ⟨some 42, Op.extract (Operand.tmp 29) 0, _, _, _, none⟩) _ rfl (by kernel_rfl) (by kernel_rfl) (by kernel_rfl) (fun _ _ _ h => h) (fun _ q => Hp.Sh.dropA q) (by rfl) (fun W hW => by go_simp; (try with_reducible rfl)) ?_; (try simp only [Act.put, List.setIfInBounds_toArray, List.set_cons_zero, List.set_cons_succ]))
          (refine Hp.soft_take (i := 14) (oi := ⟨some 43, Op.extract (Operand.tmp 29) 1, _, _, _, none⟩) _ rfl (by kernel_rfl) (by kernel_rfl) (by kernel_rfl) (fun _ _ _ h => h) (fun _ q => Hp.Sh.dropA q) (by rfl) (fun W hW => by go_simp; (try with_reducible rfl)) ?_; (try simp only [Act.put, List.setIfInBounds_toArray, List.set_cons_zero, List.set_cons_succ]))
          (refine Hp.soft_take (i := 15) (oi := ⟨some 9, Op.assign (Operand.tmp 42), _, _, _, none⟩) _ rfl (by kernel_rfl) (by kernel_rfl) (by kernel_rfl) (fun _ _ _ h => h) (fun _ q => Hp.Sh.dropA q) (by rfl) (fun W hW => by go_simp; (try with_reducible rfl)) ?_; (try simp only [Act.put, List.setIfInBounds_toArray, List.set_cons_zero, List.set_cons_succ]))
          (refine Hp.soft_take (i := 16) (oi := ⟨some 13, Op.assign (Operand.tmp 43), _, _, _, none⟩) _ rfl (by kernel_rfl) (by kernel_rfl) (by kernel_rfl) (fun _ _ _ h => h) (fun _ q => Hp.Sh.dropA q) (by rfl) (fun W hW => by go_simp; (try with_reducible rfl)) ?_; (try simp only [Act.put, List.setIfInBounds_toArray, List.set_cons_zero, List.set_cons_succ]))
          refine Hp.soft_done (by kernel_rfl) (fun w1 sh => ?_) _; (try clear F); (try have F := Hp.Sh.facts sh); (try simp only [Hp.Facts, Hp.CellsAt, Nat.reduceAdd, List.cons_append, List.nil_append] at F)
          replace sh : Hp.Sh w _ ([_, _] ++ R1) _ := Hp.Sh.front (A := R1) sh
          obtain ⟨s2, c2, rfl, -, -, -⟩ := HR1.out.slice
          have hg3 : ((N : Int) + (G.2 : Int)) = ((N + G.2 : Nat) : Int) := by omega
          have HG3 := Lib.hid hg3
          clear hg3 z1
          have F : True := trivial
          go_wp2_with (first
              | ((with_reducible refine Hp.wpl_box sh ?_ ?_); exact rfl; clear sh; (try clear F); go_simp; intro b w1 sh; have F := sh.facts; (try simp only [Hp.Facts, Hp.CellsAt, Nat.reduceAdd, List.cons_append, List.nil_append] at F))
              | ((with_reducible refine Hp.wpl_alloc Try.z_ev sh ?_ ?_); exact rfl; clear sh; (try clear F); go_simp; intro b w1 sh; have F := sh.facts; (try simp only [Hp.Facts, Hp.CellsAt, Nat.reduceAdd, List.cons_append, List.nil_append] at F))
              | ((with_reducible refine Hp.wpl_alloc Try.z_blk sh ?_ ?_); exact rfl; clear sh; (try clear F); go_simp; intro b w1 sh; have F := sh.facts; (try simp only [Hp.Facts, Hp.CellsAt, Nat.reduceAdd, List.cons_append, List.nil_append] at F))
              | ((with_reducible refine Hp.atl_store ?_ ?_); exact rfl; (first | refine Hp.wp_store 0 sh rfl rfl rfl rfl (by kernel_rfl) (Nat.le_of_ble_eq_true rfl) rfl ?_ | refine Hp.wp_store 1 sh rfl rfl rfl rfl (by kernel_rfl) (Nat.le_of_ble_eq_true rfl) rfl ?_ | refine Hp.wp_store 2 sh rfl rfl rfl rfl (by kernel_rfl) (Nat.le_of_ble_eq_true rfl) rfl ?_ | refine Hp.wp_store 3 sh rfl rfl rfl rfl (by kernel_rfl) (Nat.le_of_ble_eq_true rfl) rfl ?_ | refine Hp.wp_store 4 sh rfl rfl rfl rfl (by kernel_rfl) (Nat.le_of_ble_eq_true rfl) rfl ?_ | refine Hp.wp_store 5 sh rfl rfl rfl rfl (by kernel_rfl) (Nat.le_of_ble_eq_true rfl) rfl ?_ | refine Hp.wp_store 6 sh rfl rfl rfl rfl (by kernel_rfl) (Nat.le_of_ble_eq_true rfl) rfl ?_); clear sh; (try clear F); go_simp; intro w1 sh; have F := sh.facts; (try simp only [Hp.Facts, Hp.CellsAt, Nat.reduceAdd, List.cons_append, List.nil_append] at F))
              | fail)
          go_roundw
          case rel => exact ⟨k + 1, N + G.2, a + m, R1, G.1, by rw [HG3.out], by go_num, by omega, hg2, by omega, hg1, ⟨HR1.out, by have := HCN.out; rw [HS.out] at this; exact this, by rw [HK.out.2.2, HFy.out]⟩, sh.drop1⟩
          case measure => simp [intOf]; omega
      · have HE := Lib.hid (show QryP.findN (f, u, lo, hi, ps, ks, mo) l bs ([], 0) = (Tk, N) by rw [HK.out.2.2, List.drop_eq_nil_of_le (by have := HL.out; omega)]; rfl)
        have F : True := trivial
        go_wp2_with (first
            | ((with_reducible refine Hp.wpl_box sh ?_ ?_); exact rfl; clear sh; (try clear F); go_simp; intro b w1 sh; have F := sh.facts; (try simp only [Hp.Facts, Hp.CellsAt, Nat.reduceAdd, List.cons_append, List.nil_append] at F))
            | ((with_reducible refine Hp.wpl_alloc Try.z_ev sh ?_ ?_); exact rfl; clear sh; (try clear F); go_simp; intro b w1 sh; have F := sh.facts; (try simp only [Hp.Facts, Hp.CellsAt, Nat.reduceAdd, List.cons_append, List.nil_append] at F))
            | ((with_reducible refine Hp.wpl_alloc Try.z_blk sh ?_ ?_); exact rfl; clear sh; (try clear F); go_simp; intro b w1 sh; have F := sh.facts; (try simp only [Hp.Facts, Hp.CellsAt, Nat.reduceAdd, List.cons_append, List.nil_append] at F))
            | ((with_reducible refine Hp.atl_store ?_ ?_); exact rfl; (first | refine Hp.wp_store 0 sh rfl rfl rfl rfl (by kernel_rfl) (Nat.le_of_ble_eq_true rfl) rfl ?_ | refine Hp.wp_store 1 sh rfl rfl rfl rfl (by kernel_rfl) (Nat.le_of_ble_eq_true rfl) rfl ?_ | refine Hp.wp_store 2 sh rfl rfl rfl rfl (by kernel_rfl) (Nat.le_of_ble_eq_true rfl) rfl ?_ | refine Hp.wp_store 3 sh rfl rfl rfl rfl (by kernel_rfl) (Nat.le_of_ble_eq_true rfl) rfl ?_ | refine Hp.wp_store 4 sh rfl rfl rfl rfl (by kernel_rfl) (Nat.le_of_ble_eq_true rfl) rfl ?_ | refine Hp.wp_store 5 sh rfl rfl rfl rfl (by kernel_rfl) (Nat.le_of_ble_eq_true rfl) rfl ?_ | refine Hp.wp_store 6 sh rfl rfl rfl rfl (by kernel_rfl) (Nat.le_of_ble_eq_true rfl) rfl ?_); clear sh; (try clear F); go_simp; intro w1 sh; have F := sh.facts; (try simp only [Hp.Facts, Hp.CellsAt, Nat.reduceAdd, List.cons_append, List.nil_append] at F))
            | fail)
        go_ret3
        exact QryP.FindP.mk (by rw [HF.out, HE.out]) (Hp.Sh.front (A := [_]) sh) HR.out rfl

end Go.Proofs.Ytedcnoajadnhnaa