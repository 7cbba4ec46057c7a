
/-
  The walks of cover and Find.
-/
import Derived.Test.YtedcnoajadnhnaaQry6
namespace Go.Proofs.Ytedcnoajadnhnaa
open Go.RowKit
set_option linter.unusedVariables false
set_option linter.unusedSimpArgs false

namespace Hp
theorem exec_cut2 {P : Program} {w : World} {ev : Operand → Value} {dst : Option Tmp} {ty : TypeId} {pos : String} {af : Array Edge} {g : Option (Nat × Bool)} {T e : TypeId} {x lo hi' : Operand} {size : Nat} (hT : P.underlying T = some (.slice e)) (hi : (P.info? e).map (·.size) = some size) {s : Option Addr} {n cap : Nat} (l h : Nat) {k1 k2 : IntKind}
    (hx : ev x = .slice s n cap) (hlo : ev lo = .int k1 (l : Nat)) (hhi : ev hi' = .int k2 (h : Nat)) (h1 : l ≤ h) (h2 : h ≤ cap) :
    (execOp ev ⟨dst, .slice T x (some lo) (some hi') none, ty, pos, af, g⟩).run P w = .ok (.value (.slice (cut s l cap size) (h - l) (cap - l))) w := by
  cases hq : P.info? e with
  | none => simp [hq] at hi
  | some i =>
    have hs : i.size = size := by simpa [hq] using hi
    simp [execOp, hx, hlo, hhi, Instr.sliceAt, Instr.slice, run_underlying hT, Instr.sliceBounds, run_sliceBound, h1, h2, sizeOf, typeInfo, hq, hs, Result.andThen, cut]
end Hp
namespace QryP
def BkB (b : Bk) : Prop := (-9223372036854775808 ≤ b.1 ∧ b.1 ≤ 9223372036854775807) ∧ (-9223372036854775808 ≤ b.2.1 ∧ b.2.1 ≤ 9223372036854775807) ∧ (0 ≤ b.2.2.1 ∧ b.2.2.1 ≤ 18446744073709551615) ∧ (-9223372036854775808 ≤ b.2.2.2.1 ∧ b.2.2.2.1 ≤ 9223372036854775807) ∧ (-9223372036854775808 ≤ b.2.2.2.2.1 ∧ b.2.2.2.2.1 ≤ 9223372036854775807) ∧ (0 ≤ b.2.2.2.2.2.1 ∧ b.2.2.2.2.2.1 ≤ 18446744073709551615) ∧ (0 ≤ b.2.2.2.2.2.2 ∧ b.2.2.2.2.2.2 ≤ 18446744073709551615)
theorem bk_cells {W : World} {p : Addr} {L : List Bk} (hR : Hp.RdV W (some p) (L.flatMap bc)) {k : Nat} (h : k < L.length) {at_ mn fs lw hg bp bk : Int} (hx : L[k] = (at_, mn, fs, lw, hg, bp, bk)) :
    W.cell? (p.add (k * 7)) = some (.int .i64 at_) ∧ W.cell? ⟨(p.add (k * 7)).block, (p.add (k * 7)).off + 1, none⟩ = some (.int .i64 mn) ∧ W.cell? ⟨(p.add (k * 7)).block, (p.add (k * 7)).off + 2, none⟩ = some (.int .u64 fs) ∧ W.cell? ⟨(p.add (k * 7)).block, (p.add (k * 7)).off + 3, none⟩ = some (.int .i64 lw) ∧ W.cell? ⟨(p.add (k * 7)).block, (p.add (k * 7)).off + 4, none⟩ = some (.int .i64 hg) ∧ W.cell? ⟨(p.add (k * 7)).block, (p.add (k * 7)).off + 5, none⟩ = some (.int .u64 bp) ∧ W.cell? ⟨(p.add (k * 7)).block, (p.add (k * 7)).off + 6, none⟩ = some (.int .u64 bk) :=
  ⟨Hp.row_cell0 bc_len hR h (by rw [hx]; rfl), Hp.row_cellS bc_len hR h 1 (by decide) (by rw [hx]; rfl), Hp.row_cellS bc_len hR h 2 (by decide) (by rw [hx]; rfl), Hp.row_cellS bc_len hR h 3 (by decide) (by rw [hx]; rfl), Hp.row_cellS bc_len hR h 4 (by decide) (by rw [hx]; rfl), Hp.row_cellS bc_len hR h 5 (by decide) (by rw [hx]; rfl), Hp.row_cellS bc_len hR h 6 (by decide) (by rw [hx]; rfl)⟩
theorem dropB_get {l : List Bk} {k : Nat} (h : k < l.length) : l.drop k = l[k] :: l.drop (k + 1) := List.drop_eq_getElem_cons h
theorem cov_no1 {many a : Int} {b : Bk} {r : List Bk} (h : b.1 ≠ a) : coverN many a (b :: r) = false := by rw [coverN]; simp [h]
theorem cov_no2 {many a : Int} {b : Bk} {r : List Bk} (h : b.2.1 < 1) : coverN many a (b :: r) = false := by
  rw [coverN, decide_eq_false (show ¬ 1 ≤ b.2.1 by omega)]; simp
theorem cov_no3 {many a : Int} {b : Bk} {r : List Bk} (h : many - a < b.2.1) : coverN many a (b :: r) = false := by
  rw [coverN, decide_eq_false (show ¬ b.2.1 ≤ many - a by omega)]; simp
theorem cov_yes {many a : Int} {b : Bk} {r : List Bk} (h1 : b.1 = a) (h2 : ¬ b.2.1 < 1) (h3 : ¬ many - a < b.2.1) : coverN many a (b :: r) = coverN many (a + b.2.1) r := by
  rw [coverN, decide_eq_true h1, decide_eq_true (show 1 ≤ b.2.1 by omega), decide_eq_true (show b.2.1 ≤ many - a by omega)]; simp
theorem cov_back {many a : Int} {b : Bk} {r : List Bk} (h : coverN many a (b :: r) = true) : b.1 = a ∧ 1 ≤ b.2.1 ∧ b.2.1 ≤ many - a ∧ coverN many (a + b.2.1) r = true := by
  rw [coverN] at h; simpa using h
theorem flat_drop : ∀ (a : Nat) (l : List Ev), (l.drop a).flatMap EvP.evc = (l.flatMap EvP.evc).drop (a * 6)
  | 0, l => by simp
  | a + 1, [] => by simp
  | a + 1, x :: r => by
    rw [List.drop_succ_cons, flat_drop a r, List.flatMap_cons, show (a + 1) * 6 = (EvP.evc x).length + a * 6 by rw [EvP.evc_len]; omega, List.drop_append]
    simp
theorem flat_take : ∀ (a : Nat) (l : List Ev), (l.take a).flatMap EvP.evc = (l.flatMap EvP.evc).take (a * 6)
  | 0, l => by simp
  | a + 1, [] => by simp
  | a + 1, x :: r => by
    rw [List.take_succ_cons, List.flatMap_cons, flat_take a r, List.flatMap_cons, show (a + 1) * 6 = (EvP.evc x).length + a * 6 by rw [EvP.evc_len]; omega, List.take_length_add_append]
theorem cut_rdv {W : World} {s : Option Addr} {l : List Ev} {c : Nat} (h : Hp.RdV W s (l.flatMap EvP.evc)) (a m : Nat) (hc : l.length ≤ c) : Hp.RdV W (Hp.cut s a c 6) (((l.drop a).take m).flatMap EvP.evc) := by
  rw [flat_take, flat_drop]
  refine (h.cut (fun e => ?_)).take _
  rw [Hp.flat_length EvP.evc_len]; omega
/-- What find has told after k blocks. -/
theorem find_no {q : Qy} {l : List Ev} {b : Bk} {r : List Bk} {s : List Ev × Nat} (h : may q b = false) : findN q l (b :: r) s = findN q l r s := by rw [findN, if_neg (by rw [h]; decide)]
theorem find_yes {q : Qy} {l : List Ev} {b : Bk} {r : List Bk} {s : List Ev × Nat} {a m : Nat} (h : may q b = true) (h1 : b.1 = (a : Int)) (h2 : b.2.1 = (m : Int)) : findN q l (b :: r) s = findN q l r ((gath q ((l.drop a).take m) s.1).1, s.2 + (gath q ((l.drop a).take m) s.1).2) := by
  rw [findN, if_pos h, h1, h2]; rfl
def FindP (X : (List Ev × Nat) × Int) (w : World) (e : Ending) (w' : World) : Prop := ∃ s c, e = .returned (.tuple #[.slice s X.1.1.length c, .int .i64 (X.1.2 : Int), .int .i64 X.2]) ∧ (∀ p, s = some p → w.heap.size ≤ p.block) ∧ Hp.RdV w' s (X.1.1.flatMap EvP.evc) ∧ Below w.heap.size w w' ∧ X.1.1.length ≤ c ∧ c ≤ maxLen ∧ (s = none → X.1.1.length = 0 ∧ c = 0)
theorem FindP.none {q : Qy} {l : List Ev} {bs : List Bk} {w w' : World} (h : cover l.length bs = false) (hb : Below w.heap.size w w') {e : Ending} (he : e = .returned (.tuple #[.slice none 0 0, .int .i64 0, .int .i64 1])) : FindP (find q l bs) w e w' := by
  unfold find
  rw [if_neg (by rw [h]; decide)]
  exact ⟨_, 0, he, (fun p hp => by cases hp), Hp.RdV.nil _ _, hb, Nat.le_refl _, by simp [maxLen], fun _ => ⟨rfl, rfl⟩⟩
theorem FindP.mk {X : (List Ev × Nat) × Int} {L : List Ev} {N : Nat} {w w' : World} {H R : List Hp.Blk} {D : World → Prop} {s : Option Addr} {c : Nat} (hX : X = ((L, N), 0)) (sh : Hp.Sh w w' (R ++ H) D) (hr : Hp.RowIs 26 6 (.slice s L.length c) L.length (L.flatMap EvP.evc) R) {e : Ending} (he : e = .returned (.tuple #[.slice s L.length c, .int .i64 (N : Int), .int .i64 0])) : FindP X w e w' := by
  subst hX
  obtain ⟨s', c', h1, h2, h3, h4⟩ := hr.slice
  cases h1
  exact ⟨s, c, he, Hp.row_new sh hr, Hp.Sh.cells sh hr, sh.below, h3, h4, h2⟩
end QryP
theorem Try.z_blk (W : World) : (zeroValue 28).run Try.prog W = .ok (.agg #[.int .i64 0, .int .i64 0, .int .u64 0, .int .i64 0, .int .i64 0, .int .u64 0, .int .u64 0]) W := by kernel_rfl
theorem Try.s_evt : (Try.prog.info? 26).map (·.size) = some 6 := by kernel_rfl

set_option maxHeartbeats 4000000 in
set_option maxRecDepth 100000 in
theorem qcover (many : Int) (hm0 : 0 ≤ many) (hm1 : many ≤ 100000) (s1 : Option Addr) (bs : List QryP.Bk) (n c : Nat) (hn : n = bs.length) (hnc : n ≤ c) (hm : n ≤ 100000) (hB : ∀ x ∈ bs, QryP.BkB x) (w : World) (hR : Hp.RdV w s1 (bs.flatMap QryP.bc)) :
    Calls Try.prog 41 #[.int .i64 many, .slice s1 n c] w fun e w' => e = .returned (.bool (QryP.cover many bs)) ∧ Below w.heap.size w w' := by
  have sh := (Hp.Sh.start (RdV_rob hR) : Hp.Sh w w [] (fun W => Hp.RdV W s1 (bs.flatMap QryP.bc)))
  have HL := Lib.hid hn
  have HB := Lib.hid hB
  clear hn hB hR
  go_enter Try.func41, Try.ntmps41
  have F := sh.facts; (try simp only [Hp.Facts, Hp.CellsAt, Nat.reduceAdd, List.cons_append, List.nil_append] at F)
  go_wp2_with (first
      | ((with_reducible refine Hp.wpl_box sh ?_ ?_); exact rfl; clear sh; (try clear F); go_simp; intro b w1 sh; have F := sh.facts; (try simp only [Hp.Facts, Hp.CellsAt, Nat.reduceAdd, List.cons_append, List.nil_append] at F))
      | ((with_reducible refine Hp.wpl_alloc Try.z_ev sh ?_ ?_); exact rfl; clear sh; (try clear F); go_simp; intro b w1 sh; have F := sh.facts; (try simp only [Hp.Facts, Hp.CellsAt, Nat.reduceAdd, List.cons_append, List.nil_append] at F))
      | ((with_reducible refine Hp.wpl_alloc Try.z_blk sh ?_ ?_); exact rfl; clear sh; (try clear F); go_simp; intro b w1 sh; have F := sh.facts; (try simp only [Hp.Facts, Hp.CellsAt, Nat.reduceAdd, List.cons_append, List.nil_append] at F))
      | ((with_reducible refine Hp.atl_store ?_ ?_); exact rfl; (first | refine Hp.wp_store 0 sh rfl rfl rfl rfl (by kernel_rfl) (Nat.le_of_ble_eq_true rfl) rfl ?_ | refine Hp.wp_store 1 sh rfl rfl rfl rfl (by kernel_rfl) (Nat.le_of_ble_eq_true rfl) rfl ?_ | refine Hp.wp_store 2 sh rfl rfl rfl rfl (by kernel_rfl) (Nat.le_of_ble_eq_true rfl) rfl ?_ | refine Hp.wp_store 3 sh rfl rfl rfl rfl (by kernel_rfl) (Nat.le_of_ble_eq_true rfl) rfl ?_ | refine Hp.wp_store 4 sh rfl rfl rfl rfl (by kernel_rfl) (Nat.le_of_ble_eq_true rfl) rfl ?_ | refine Hp.wp_store 5 sh rfl rfl rfl rfl (by kernel_rfl) (Nat.le_of_ble_eq_true rfl) rfl ?_ | refine Hp.wp_store 6 sh rfl rfl rfl rfl (by kernel_rfl) (Nat.le_of_ble_eq_true rfl) rfl ?_); clear sh; (try clear F); go_simp; intro w1 sh; have F := sh.facts; (try simp only [Hp.Facts, Hp.CellsAt, Nat.reduceAdd, List.cons_append, List.nil_append] at F))
      | fail)
  go_loopw [5, 10] (fun v i wr => ∃ (k : Nat) (a : Int), v = .int .i64 a ∧ 0 ≤ a ∧ a ≤ many ∧ i = .int .i64 k ∧ k ≤ n ∧ Hid (QryP.cover many bs = QryP.coverN many a (bs.drop k)) ∧ Hp.Sh w wr [] (fun W => Hp.RdV W s1 (bs.flatMap QryP.bc))) (fun _ i _ => n - (intOf i).toNat)
  case atStart => exact ⟨0, 0, rfl, by omega, hm0, rfl, by omega, rfl, sh⟩
  case round =>
    clear sh F
    obtain ⟨k, a, rfl, ha0, ha1, rfl, hk, HK, sh⟩ := hrel
    by_cases hlt : k < n
    · have hlI : (k : Int) < (n : Int) := by omega
      have hkL : k < bs.length := by rw [← HL.out]; exact hlt
      obtain ⟨pp, hp, -⟩ := sh.data (Hp.flat_pos QryP.bc_len (by decide) hkL)
      subst hp
      rcases hx : bs[k] with ⟨at_, mn, fs, lw, hg, bp, bk⟩
      have hb := HB.out _ (List.getElem_mem hkL)
      rw [hx] at hb
      obtain ⟨hat, hmn, hfs, hlw, hhg, hbp, hbk⟩ := hb
      dsimp only at hat hmn hfs hlw hhg hbp hbk
      have HX := Lib.hid hx
      have HD := Lib.hid (show bs.drop k = (at_, mn, fs, lw, hg, bp, bk) :: bs.drop (k + 1) by rw [QryP.dropB_get hkL, hx])
      rw [HD.out] at HK
      obtain ⟨q0, q1, q2, q3, q4, q5, q6⟩ := QryP.bk_cells sh.data hkL hx
      have z1 : IntKind.i64.wrap (many - a) = many - a := IntWalk.i64_in _ (by omega)
      by_cases c1 : at_ = a
      · subst c1
        by_cases c2 : mn < 1
        · have HE := Lib.hid (QryP.cov_no2 (many := many) (a := at_) (b := (at_, mn, fs, lw, hg, bp, bk)) (r := bs.drop (k + 1)) c2)
          clear hx z1
          have F := sh.facts; (try simp only [Hp.Facts, Hp.CellsAt, Nat.reduceAdd, List.cons_append, List.nil_append] at F)
          have tok_bx : True := trivial
          go_wp2_with (first
              | ((have tok := tok_bx); clear tok tok_bx; (first | (with_reducible refine Hp.wpl_box sh ?_ ?_) | (with_reducible refine Hp.wpl_alloc Try.z_ev sh ?_ ?_) | (with_reducible refine Hp.wpl_alloc Try.z_blk sh ?_ ?_)); exact rfl; clear sh; (try clear F); go_simp; intro bx w1 sh; have F := sh.facts; (try simp only [Hp.Facts, Hp.CellsAt, Nat.reduceAdd, List.cons_append, List.nil_append] at F))
              | ((with_reducible refine Hp.wpl_box sh ?_ ?_); exact rfl; clear sh; (try clear F); go_simp; intro b w1 sh; have F := sh.facts; (try simp only [Hp.Facts, Hp.CellsAt, Nat.reduceAdd, List.cons_append, List.nil_append] at F))
              | ((with_reducible refine Hp.wpl_alloc Try.z_ev sh ?_ ?_); exact rfl; clear sh; (try clear F); go_simp; intro b w1 sh; have F := sh.facts; (try simp only [Hp.Facts, Hp.CellsAt, Nat.reduceAdd, List.cons_append, List.nil_append] at F))
              | ((with_reducible refine Hp.wpl_alloc Try.z_blk sh ?_ ?_); exact rfl; clear sh; (try clear F); go_simp; intro b w1 sh; have F := sh.facts; (try simp only [Hp.Facts, Hp.CellsAt, Nat.reduceAdd, List.cons_append, List.nil_append] at F))
              | ((with_reducible refine Hp.atl_store ?_ ?_); exact rfl; (first | refine Hp.wp_store 0 sh rfl rfl rfl rfl (by kernel_rfl) (Nat.le_of_ble_eq_true rfl) rfl ?_ | refine Hp.wp_store 1 sh rfl rfl rfl rfl (by kernel_rfl) (Nat.le_of_ble_eq_true rfl) rfl ?_ | refine Hp.wp_store 2 sh rfl rfl rfl rfl (by kernel_rfl) (Nat.le_of_ble_eq_true rfl) rfl ?_ | refine Hp.wp_store 3 sh rfl rfl rfl rfl (by kernel_rfl) (Nat.le_of_ble_eq_true rfl) rfl ?_ | refine Hp.wp_store 4 sh rfl rfl rfl rfl (by kernel_rfl) (Nat.le_of_ble_eq_true rfl) rfl ?_ | refine Hp.wp_store 5 sh rfl rfl rfl rfl (by kernel_rfl) (Nat.le_of_ble_eq_true rfl) rfl ?_ | refine Hp.wp_store 6 sh rfl rfl rfl rfl (by kernel_rfl) (Nat.le_of_ble_eq_true rfl) rfl ?_); clear sh; (try clear F); go_simp; intro w1 sh; have F := sh.facts; (try simp only [Hp.Facts, Hp.CellsAt, Nat.reduceAdd, List.cons_append, List.nil_append] at F))
              | fail)
          go_ret
          exact ⟨ret_bool (by rw [HK.out, HE.out]), sh.below⟩
        · by_cases c3 : many - at_ < mn
          · have HE := Lib.hid (QryP.cov_no3 (many := many) (a := at_) (b := (at_, mn, fs, lw, hg, bp, bk)) (r := bs.drop (k + 1)) c3)
            clear hx
            have F := sh.facts; (try simp only [Hp.Facts, Hp.CellsAt, Nat.reduceAdd, List.cons_append, List.nil_append] at F)
            have tok_bx : True := trivial
            go_wp2_with (first
                | ((have tok := tok_bx); clear tok tok_bx; (first | (with_reducible refine Hp.wpl_box sh ?_ ?_) | (with_reducible refine Hp.wpl_alloc Try.z_ev sh ?_ ?_) | (with_reducible refine Hp.wpl_alloc Try.z_blk sh ?_ ?_)); exact rfl; clear sh; (try clear F); go_simp; intro bx w1 sh; have F := sh.facts; (try simp only [Hp.Facts, Hp.CellsAt, Nat.reduceAdd, List.cons_append, List.nil_append] at F))
                | ((with_reducible refine Hp.wpl_box sh ?_ ?_); exact rfl; clear sh; (try clear F); go_simp; intro b w1 sh; have F := sh.facts; (try simp only [Hp.Facts, Hp.CellsAt, Nat.reduceAdd, List.cons_append, List.nil_append] at F))
                | ((with_reducible refine Hp.wpl_alloc Try.z_ev sh ?_ ?_); exact rfl; clear sh; (try clear F); go_simp; intro b w1 sh; have F := sh.facts; (try simp only [Hp.Facts, Hp.CellsAt, Nat.reduceAdd, List.cons_append, List.nil_append] at F))
                | ((with_reducible refine Hp.wpl_alloc Try.z_blk sh ?_ ?_); exact rfl; clear sh; (try clear F); go_simp; intro b w1 sh; have F := sh.facts; (try simp only [Hp.Facts, Hp.CellsAt, Nat.reduceAdd, List.cons_append, List.nil_append] at F))
                | ((with_reducible refine Hp.atl_store ?_ ?_); exact rfl; (first | refine Hp.wp_store 0 sh rfl rfl rfl rfl (by kernel_rfl) (Nat.le_of_ble_eq_true rfl) rfl ?_ | refine Hp.wp_store 1 sh rfl rfl rfl rfl (by kernel_rfl) (Nat.le_of_ble_eq_true rfl) rfl ?_ | refine Hp.wp_store 2 sh rfl rfl rfl rfl (by kernel_rfl) (Nat.le_of_ble_eq_true rfl) rfl ?_ | refine Hp.wp_store 3 sh rfl rfl rfl rfl (by kernel_rfl) (Nat.le_of_ble_eq_true rfl) rfl ?_ | refine Hp.wp_store 4 sh rfl rfl rfl rfl (by kernel_rfl) (Nat.le_of_ble_eq_true rfl) rfl ?_ | refine Hp.wp_store 5 sh rfl rfl rfl rfl (by kernel_rfl) (Nat.le_of_ble_eq_true rfl) rfl ?_ | refine Hp.wp_store 6 sh rfl rfl rfl rfl (by kernel_rfl) (Nat.le_of_ble_eq_true rfl) rfl ?_); clear sh; (try clear F); go_simp; intro w1 sh; have F := sh.facts; (try simp only [Hp.Facts, Hp.CellsAt, Nat.reduceAdd, List.cons_append, List.nil_append] at F))
                | fail)
            go_ret
            exact ⟨ret_bool (by rw [HK.out, HE.out]), sh.below⟩
          · have HE := Lib.hid (QryP.cov_yes (many := many) (b := (at_, mn, fs, lw, hg, bp, bk)) (r := bs.drop (k + 1)) rfl c2 c3)
            have z2 : IntKind.i64.wrap (at_ + mn) = at_ + mn := IntWalk.i64_in _ (by omega)
            have b1 : 0 ≤ at_ + mn := by omega
            have b2 : at_ + mn ≤ many := by omega
            clear hx
            have F := sh.facts; (try simp only [Hp.Facts, Hp.CellsAt, Nat.reduceAdd, List.cons_append, List.nil_append] at F)
            have tok_bx : True := trivial
            go_wp2_with (first
                | ((have tok := tok_bx); clear tok tok_bx; (first | (with_reducible refine Hp.wpl_box sh ?_ ?_) | (with_reducible refine Hp.wpl_alloc Try.z_ev sh ?_ ?_) | (with_reducible refine Hp.wpl_alloc Try.z_blk sh ?_ ?_)); exact rfl; clear sh; (try clear F); go_simp; intro bx w1 sh; have F := sh.facts; (try simp only [Hp.Facts, Hp.CellsAt, Nat.reduceAdd, List.cons_append, List.nil_append] at F))
                | ((with_reducible refine Hp.wpl_box sh ?_ ?_); exact rfl; clear sh; (try clear F); go_simp; intro b w1 sh; have F := sh.facts; (try simp only [Hp.Facts, Hp.CellsAt, Nat.reduceAdd, List.cons_append, List.nil_append] at F))
                | ((with_reducible refine Hp.wpl_alloc Try.z_ev sh ?_ ?_); exact rfl; clear sh; (try clear F); go_simp; intro b w1 sh; have F := sh.facts; (try simp only [Hp.Facts, Hp.CellsAt, Nat.reduceAdd, List.cons_append, List.nil_append] at F))
                | ((with_reducible refine Hp.wpl_alloc Try.z_blk sh ?_ ?_); exact rfl; clear sh; (try clear F); go_simp; intro b w1 sh; have F := sh.facts; (try simp only [Hp.Facts, Hp.CellsAt, Nat.reduceAdd, List.cons_append, List.nil_append] at F))
                | ((with_reducible refine Hp.atl_store ?_ ?_); exact rfl; (first | refine Hp.wp_store 0 sh rfl rfl rfl rfl (by kernel_rfl) (Nat.le_of_ble_eq_true rfl) rfl ?_ | refine Hp.wp_store 1 sh rfl rfl rfl rfl (by kernel_rfl) (Nat.le_of_ble_eq_true rfl) rfl ?_ | refine Hp.wp_store 2 sh rfl rfl rfl rfl (by kernel_rfl) (Nat.le_of_ble_eq_true rfl) rfl ?_ | refine Hp.wp_store 3 sh rfl rfl rfl rfl (by kernel_rfl) (Nat.le_of_ble_eq_true rfl) rfl ?_ | refine Hp.wp_store 4 sh rfl rfl rfl rfl (by kernel_rfl) (Nat.le_of_ble_eq_true rfl) rfl ?_ | refine Hp.wp_store 5 sh rfl rfl rfl rfl (by kernel_rfl) (Nat.le_of_ble_eq_true rfl) rfl ?_ | refine Hp.wp_store 6 sh rfl rfl rfl rfl (by kernel_rfl) (Nat.le_of_ble_eq_true rfl) rfl ?_); clear sh; (try clear F); go_simp; intro w1 sh; have F := sh.facts; (try simp only [Hp.Facts, Hp.CellsAt, Nat.reduceAdd, List.cons_append, List.nil_append] at F))
                | fail)
            clear z1 z2
            go_roundw
            case rel => exact ⟨k + 1, at_ + mn, rfl, b1, b2, by go_num, by omega, by show _ = _; rw [HK.out, HE.out], sh.drop1⟩
            case measure => simp [intOf]; omega
      · have HE := Lib.hid (QryP.cov_no1 (many := many) (b := (at_, mn, fs, lw, hg, bp, bk)) (r := bs.drop (k + 1)) c1)
        have e1 : (at_ != a) = true := by simpa using c1
        clear hx z1
        have F := sh.facts; (try simp only [Hp.Facts, Hp.CellsAt, Nat.reduceAdd, List.cons_append, List.nil_append] at F)
        have tok_bx : True := trivial
        go_wp2_with (first
            | ((have tok := tok_bx); clear tok tok_bx; (first | (with_reducible refine Hp.wpl_box sh ?_ ?_) | (with_reducible refine Hp.wpl_alloc Try.z_ev sh ?_ ?_) | (with_reducible refine Hp.wpl_alloc Try.z_blk sh ?_ ?_)); exact rfl; clear sh; (try clear F); go_simp; intro bx w1 sh; have F := sh.facts; (try simp only [Hp.Facts, Hp.CellsAt, Nat.reduceAdd, List.cons_append, List.nil_append] at F))
            | ((with_reducible refine Hp.wpl_box sh ?_ ?_); exact rfl; clear sh; (try clear F); go_simp; intro b w1 sh; have F := sh.facts; (try simp only [Hp.Facts, Hp.CellsAt, Nat.reduceAdd, List.cons_append, List.nil_append] at F))
            | ((with_reducible refine Hp.wpl_alloc Try.z_ev sh ?_ ?_); exact rfl; clear sh; (try clear F); go_simp; intro b w1 sh; have F := sh.facts; (try simp only [Hp.Facts, Hp.CellsAt, Nat.reduceAdd, List.cons_append, List.nil_append] at F))
            | ((with_reducible refine Hp.wpl_alloc Try.z_blk sh ?_ ?_); exact rfl; clear sh; (try clear F); go_simp; intro b w1 sh; have F := sh.facts; (try simp only [Hp.Facts, Hp.CellsAt, Nat.reduceAdd, List.cons_append, List.nil_append] at F))
            | ((with_reducible refine Hp.atl_store ?_ ?_); exact rfl; (first | refine Hp.wp_store 0 sh rfl rfl rfl rfl (by kernel_rfl) (Nat.le_of_ble_eq_true rfl) rfl ?_ | refine Hp.wp_store 1 sh rfl rfl rfl rfl (by kernel_rfl) (Nat.le_of_ble_eq_true rfl) rfl ?_ | refine Hp.wp_store 2 sh rfl rfl rfl rfl (by kernel_rfl) (Nat.le_of_ble_eq_true rfl) rfl ?_ | refine Hp.wp_store 3 sh rfl rfl rfl rfl (by kernel_rfl) (Nat.le_of_ble_eq_true rfl) rfl ?_ | refine Hp.wp_store 4 sh rfl rfl rfl rfl (by kernel_rfl) (Nat.le_of_ble_eq_true rfl) rfl ?_ | refine Hp.wp_store 5 sh rfl rfl rfl rfl (by kernel_rfl) (Nat.le_of_ble_eq_true rfl) rfl ?_ | refine Hp.wp_store 6 sh rfl rfl rfl rfl (by kernel_rfl) (Nat.le_of_ble_eq_true rfl) rfl ?_); clear sh; (try clear F); go_simp; intro w1 sh; have F := sh.facts; (try simp only [Hp.Facts, Hp.CellsAt, Nat.reduceAdd, List.cons_append, List.nil_append] at F))
            | fail)
        go_ret
        exact ⟨ret_bool (by rw [HK.out, HE.out]), sh.below⟩
    · have HE := Lib.hid (show QryP.cover many bs = decide (a = many) by rw [HK.out, List.drop_eq_nil_of_le (by have := HL.out; omega)]; rfl)
      by_cases c1 : a = many
      · subst c1
        have F := sh.facts; (try simp only [Hp.Facts, Hp.CellsAt, Nat.reduceAdd, List.cons_append, List.nil_append] at F)
        go_wp2_with (first
            | ((with_reducible refine Hp.wpl_box sh ?_ ?_); exact rfl; clear sh; (try clear F); go_simp; intro b w1 sh; have F := sh.facts; (try simp only [Hp.Facts, Hp.CellsAt, Nat.reduceAdd, List.cons_append, List.nil_append] at F))
            | ((with_reducible refine Hp.wpl_alloc Try.z_ev sh ?_ ?_); exact rfl; clear sh; (try clear F); go_simp; intro b w1 sh; have F := sh.facts; (try simp only [Hp.Facts, Hp.CellsAt, Nat.reduceAdd, List.cons_append, List.nil_append] at F))
            | ((with_reducible refine Hp.wpl_alloc Try.z_blk sh ?_ ?_); exact rfl; clear sh; (try clear F); go_simp; intro b w1 sh; have F := sh.facts; (try simp only [Hp.Facts, Hp.CellsAt, Nat.reduceAdd, List.cons_append, List.nil_append] at F))
            | ((with_reducible refine Hp.atl_store ?_ ?_); exact rfl; (first | refine Hp.wp_store 0 sh rfl rfl rfl rfl (by kernel_rfl) (Nat.le_of_ble_eq_true rfl) rfl ?_ | refine Hp.wp_store 1 sh rfl rfl rfl rfl (by kernel_rfl) (Nat.le_of_ble_eq_true rfl) rfl ?_ | refine Hp.wp_store 2 sh rfl rfl rfl rfl (by kernel_rfl) (Nat.le_of_ble_eq_true rfl) rfl ?_ | refine Hp.wp_store 3 sh rfl rfl rfl rfl (by kernel_rfl) (Nat.le_of_ble_eq_true rfl) rfl ?_ | refine Hp.wp_store 4 sh rfl rfl rfl rfl (by kernel_rfl) (Nat.le_of_ble_eq_true rfl) rfl ?_ | refine Hp.wp_store 5 sh rfl rfl rfl rfl (by kernel_rfl) (Nat.le_of_ble_eq_true rfl) rfl ?_ | refine Hp.wp_store 6 sh rfl rfl rfl rfl (by kernel_rfl) (Nat.le_of_ble_eq_true rfl) rfl ?_); clear sh; (try clear F); go_simp; intro w1 sh; have F := sh.facts; (try simp only [Hp.Facts, Hp.CellsAt, Nat.reduceAdd, List.cons_append, List.nil_append] at F))
            | fail)
        go_ret
        exact ⟨ret_bool (by rw [HE.out]; simp), sh.below⟩
      · have e1 : (a == many) = false := by simpa using c1
        have F := sh.facts; (try simp only [Hp.Facts, Hp.CellsAt, Nat.reduceAdd, List.cons_append, List.nil_append] at F)
        go_wp2_with (first
            | ((with_reducible refine Hp.wpl_box sh ?_ ?_); exact rfl; clear sh; (try clear F); go_simp; intro b w1 sh; have F := sh.facts; (try simp only [Hp.Facts, Hp.CellsAt, Nat.reduceAdd, List.cons_append, List.nil_append] at F))
            | ((with_reducible refine Hp.wpl_alloc Try.z_ev sh ?_ ?_); exact rfl; clear sh; (try clear F); go_simp; intro b w1 sh; have F := sh.facts; (try simp only [Hp.Facts, Hp.CellsAt, Nat.reduceAdd, List.cons_append, List.nil_append] at F))
            | ((with_reducible refine Hp.wpl_alloc Try.z_blk sh ?_ ?_); exact rfl; clear sh; (try clear F); go_simp; intro b w1 sh; have F := sh.facts; (try simp only [Hp.Facts, Hp.CellsAt, Nat.reduceAdd, List.cons_append, List.nil_append] at F))
            | ((with_reducible refine Hp.atl_store ?_ ?_); exact rfl; (first | refine Hp.wp_store 0 sh rfl rfl rfl rfl (by kernel_rfl) (Nat.le_of_ble_eq_true rfl) rfl ?_ | refine Hp.wp_store 1 sh rfl rfl rfl rfl (by kernel_rfl) (Nat.le_of_ble_eq_true rfl) rfl ?_ | refine Hp.wp_store 2 sh rfl rfl rfl rfl (by kernel_rfl) (Nat.le_of_ble_eq_true rfl) rfl ?_ | refine Hp.wp_store 3 sh rfl rfl rfl rfl (by kernel_rfl) (Nat.le_of_ble_eq_true rfl) rfl ?_ | refine Hp.wp_store 4 sh rfl rfl rfl rfl (by kernel_rfl) (Nat.le_of_ble_eq_true rfl) rfl ?_ | refine Hp.wp_store 5 sh rfl rfl rfl rfl (by kernel_rfl) (Nat.le_of_ble_eq_true rfl) rfl ?_ | refine Hp.wp_store 6 sh rfl rfl rfl rfl (by kernel_rfl) (Nat.le_of_ble_eq_true rfl) rfl ?_); clear sh; (try clear F); go_simp; intro w1 sh; have F := sh.facts; (try simp only [Hp.Facts, Hp.CellsAt, Nat.reduceAdd, List.cons_append, List.nil_append] at F))
            | fail)
        go_ret
        exact ⟨ret_bool (by rw [HE.out]; simp [c1]), sh.below⟩

end Go.Proofs.Ytedcnoajadnhnaa