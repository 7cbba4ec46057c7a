/-
  The walk of QueuingOrder.
-/
import Derived.Test.YtddfonekfopchaaQueKeeps
namespace Go.Proofs.Ytddfonekfopchaa
open Go.RowKit
set_option linter.unusedVariables false
set_option linter.unusedSimpArgs false


namespace QueP
def OrdD (q : QL) (row : QL) (shs : List Hd) (W : World) : Prop := QOk W q ∧ QOk W row ∧ Ok W shs
theorem rcode_15 {size dep : Int} {zss : List (List Int)} (h : rcode size dep zss = 15) : zss = [] := by
  unfold rcode at h
  split at h
  · simp at h
  · split at h
    · rename_i h0; exact List.eq_nil_of_length_eq_zero h0
    · simp at h
theorem drop_cons {α : Type} {l r : List α} {x : α} {g : Nat} (h : l.drop g = x :: r) : g < l.length ∧ l[g]? = some x ∧ r = l.drop (g + 1) := by
  have h1 : g < l.length := by
    by_cases hc : g < l.length
    · exact hc
    · rw [List.drop_eq_nil_of_le (by omega)] at h; cases h
  rw [List.drop_eq_getElem_cons h1] at h
  simp only [List.cons.injEq] at h
  exact ⟨h1, by rw [List.getElem?_eq_getElem h1, h.1], h.2.symm⟩
theorem scode_8 {size dep : Int} {zss : List (List Int)} {m : Nat} (h : scode size dep zss m = 8) : (zss.length : Int) = dep := by
  unfold scode at h
  split at h
  · simp at h
  · rename_i h1
    split at h
    · simp at h
    · split at h
      · rename_i h3
        have := (isd_iff.1 (by simpa using h1)).2.2.2.2.1
        omega
      · simp at h
end QueP

set_option maxHeartbeats 8000000 in
set_option maxRecDepth 100000 in
theorem queuingOrder_walk (kd fr tg size dep : Int) (rs : Option Addr) (RL : List QueP.Hd) (N rcap : Nat) (w : World) (hsz : -9223372036854775808 ≤ size ∧ size ≤ 9223372036854775807) (hdp : -9223372036854775808 ≤ dep ∧ dep ≤ 9223372036854775807)
    (hn : N = RL.length) (hsh : ∀ h ∈ RL, QueP.Shape h) (hro : QueP.QOk w (rs, RL, rcap)) :
    Calls Try.prog 3 #[.agg #[.int .i64 kd, .int .i64 fr, .int .i64 tg, .int .i64 size, .int .i64 dep], .slice rs N rcap] w
      fun e w' => e = .returned (.bool true) ∧ Below w.heap.size w w' := by
  by_cases h1 : 100 < N
  · have sh : Hp.Sh w w [] (fun _ => True) := Hp.Sh.start (fun _ _ => trivial)
    clear hn hsh hro
    go_enter Try.func3, Try.ntmps3
    go_wp2_with (first
        | ((with_reducible refine Hp.wpl_box sh ?_ ?_); exact rfl; clear sh; (try clear F); go_simp; intro b w1 sh; have F := sh.facts; (try simp only [Hp.Facts, Hp.CellsAt, Nat.reduceAdd, List.cons_append, List.nil_append] at F))
        | ((with_reducible refine Hp.wpl_alloc Try.z_line sh ?_ ?_); exact rfl; clear sh; (try clear F); go_simp; intro b w1 sh; have F := sh.facts; (try simp only [Hp.Facts, Hp.CellsAt, Nat.reduceAdd, List.cons_append, List.nil_append] at F))
        | ((with_reducible refine Hp.wpl_alloc Try.z_chan sh ?_ ?_); exact rfl; clear sh; (try clear F); go_simp; intro b w1 sh; have F := sh.facts; (try simp only [Hp.Facts, Hp.CellsAt, Nat.reduceAdd, List.cons_append, List.nil_append] at F))
        | ((with_reducible refine Hp.atl_store ?_ ?_); exact rfl; (first | refine Hp.wp_store 0 sh rfl rfl rfl rfl (by kernel_rfl) (Nat.le_of_ble_eq_true rfl) rfl ?_ | refine Hp.wp_store 1 sh rfl rfl rfl rfl (by kernel_rfl) (Nat.le_of_ble_eq_true rfl) rfl ?_ | refine Hp.wp_store 2 sh rfl rfl rfl rfl (by kernel_rfl) (Nat.le_of_ble_eq_true rfl) rfl ?_ | refine Hp.wp_store 3 sh rfl rfl rfl rfl (by kernel_rfl) (Nat.le_of_ble_eq_true rfl) rfl ?_ | refine Hp.wp_store 4 sh rfl rfl rfl rfl (by kernel_rfl) (Nat.le_of_ble_eq_true rfl) rfl ?_ | refine Hp.wp_store 5 sh rfl rfl rfl rfl (by kernel_rfl) (Nat.le_of_ble_eq_true rfl) rfl ?_ | refine Hp.wp_store 6 sh rfl rfl rfl rfl (by kernel_rfl) (Nat.le_of_ble_eq_true rfl) rfl ?_); clear sh; (try clear F); go_simp; intro w1 sh; have F := sh.facts; (try simp only [Hp.Facts, Hp.CellsAt, Nat.reduceAdd, List.cons_append, List.nil_append] at F))
        | fail)
    go_ret
    exact ⟨rfl, sh.below⟩
  have sh := Hp.Sh.start (QueP.QOkRob hro)
  have HN := Lib.hid hn
  have HS := Lib.hid hsh
  clear hn hsh hro
  go_enter Try.func3, Try.ntmps3
  have tok_bc : True := trivial
  have tok_bq : True := trivial
  go_wp2_with (first
      | ((have tok := tok_bc); clear tok tok_bc; (first | (with_reducible refine Hp.wpl_box sh ?_ ?_) | (with_reducible refine Hp.wpl_alloc Try.z_line sh ?_ ?_) | (with_reducible refine Hp.wpl_alloc Try.z_chan sh ?_ ?_)); exact rfl; clear sh; (try clear F); go_simp; intro bc w1 sh; have F := sh.facts; (try simp only [Hp.Facts, Hp.CellsAt, Nat.reduceAdd, List.cons_append, List.nil_append] at F))
      | ((have tok := tok_bq); clear tok tok_bq; (first | (with_reducible refine Hp.wpl_box sh ?_ ?_) | (with_reducible refine Hp.wpl_alloc Try.z_line sh ?_ ?_) | (with_reducible refine Hp.wpl_alloc Try.z_chan sh ?_ ?_)); exact rfl; clear sh; (try clear F); go_simp; intro bq w1 sh; have F := sh.facts; (try simp only [Hp.Facts, Hp.CellsAt, Nat.reduceAdd, List.cons_append, List.nil_append] at F))
      | ((with_reducible refine Hp.wpl_box sh ?_ ?_); exact rfl; clear sh; (try clear F); go_simp; intro b w1 sh; have F := sh.facts; (try simp only [Hp.Facts, Hp.CellsAt, Nat.reduceAdd, List.cons_append, List.nil_append] at F))
      | ((with_reducible refine Hp.wpl_alloc Try.z_line sh ?_ ?_); exact rfl; clear sh; (try clear F); go_simp; intro b w1 sh; have F := sh.facts; (try simp only [Hp.Facts, Hp.CellsAt, Nat.reduceAdd, List.cons_append, List.nil_append] at F))
      | ((with_reducible refine Hp.wpl_alloc Try.z_chan sh ?_ ?_); exact rfl; clear sh; (try clear F); go_simp; intro b w1 sh; have F := sh.facts; (try simp only [Hp.Facts, Hp.CellsAt, Nat.reduceAdd, List.cons_append, List.nil_append] at F))
      | ((with_reducible refine Hp.atl_store ?_ ?_); exact rfl; (first | refine Hp.wp_store 0 sh rfl rfl rfl rfl (by kernel_rfl) (Nat.le_of_ble_eq_true rfl) rfl ?_ | refine Hp.wp_store 1 sh rfl rfl rfl rfl (by kernel_rfl) (Nat.le_of_ble_eq_true rfl) rfl ?_ | refine Hp.wp_store 2 sh rfl rfl rfl rfl (by kernel_rfl) (Nat.le_of_ble_eq_true rfl) rfl ?_ | refine Hp.wp_store 3 sh rfl rfl rfl rfl (by kernel_rfl) (Nat.le_of_ble_eq_true rfl) rfl ?_ | refine Hp.wp_store 4 sh rfl rfl rfl rfl (by kernel_rfl) (Nat.le_of_ble_eq_true rfl) rfl ?_ | refine Hp.wp_store 5 sh rfl rfl rfl rfl (by kernel_rfl) (Nat.le_of_ble_eq_true rfl) rfl ?_ | refine Hp.wp_store 6 sh rfl rfl rfl rfl (by kernel_rfl) (Nat.le_of_ble_eq_true rfl) rfl ?_); clear sh; (try clear F); go_simp; intro w1 sh; have F := sh.facts; (try simp only [Hp.Facts, Hp.CellsAt, Nat.reduceAdd, List.cons_append, List.nil_append] at F))
      | fail)
  go_loopw [6, 7, 8] (fun v got i wr => ∃ (k g n6 : Nat) (s6 : Option Addr) (c6 : Nat) (shs : List QueP.Hd) (R : List Hp.Blk) (s : Option Addr) (hs : List QueP.Hd) (cap n : Nat), v = .slice s6 n6 c6 ∧ got = .int .i64 g ∧ i = .int .i64 k ∧ k ≤ N ∧ g ≤ n6 ∧ n6 ≤ k ∧
      Hid (n6 = shs.length ∧ n = hs.length ∧ (∀ h ∈ shs, QueP.Shape h) ∧ QueP.QShape (s, hs, cap) ∧ QueP.qd (s, hs, cap) = (shs.map (·.2.1)).drop g ∧ Hp.RowIs 28 1 (.slice s6 n6 c6) n6 (shs.map QueP.hdr) R) ∧
      Hp.Sh w wr ([(bq, #[.slice s n cap], 27), (bc, #[.int .i64 kd, .int .i64 fr, .int .i64 tg, .int .i64 size, .int .i64 dep], 23)] ++ R) (QueP.OrdD (s, hs, cap) (rs, RL, rcap) shs)) (fun _ _ i _ => N - (intOf i).toNat)
  case atStart => exact ⟨0, 0, 0, none, 0, [], [], none, [], 0, 0, rfl, rfl, rfl, by omega, by omega, by omega, ⟨rfl, rfl, by simp, QueP.QShape0, rfl, Hp.RowIs.nil _ _⟩, sh.imp fun W h => ⟨QueP.QOk0 W, h, fun x hx => by cases hx⟩⟩
  case round =>
    clear sh F
    obtain ⟨k, g, n6, s6, c6, shs, R, s, hs, cap, n, rfl, rfl, rfl, hk, hg, hnk, HH, sh⟩ := hrel
    have F := sh.facts; (try simp only [Hp.Facts, Hp.CellsAt, Nat.reduceAdd, List.cons_append, List.nil_append] at F)
    by_cases hlt : k < N
    · have g1 : k < RL.length := by rw [← HN.out]; exact hlt
      obtain ⟨p, rfl, -⟩ := sh.data.2.1.1 (by simp; omega)
      have hS := HS.out _ (List.getElem_mem g1)
      have HC := Lib.hid (fun W (h : QueP.OrdD (s, hs, cap) (some p, RL, rcap) shs W) => (show W.cell? (p.add k) = some (QueP.hdr RL[k]) ∧ Hp.RdV W RL[k].1 (ints RL[k].2.1) from ⟨h.2.1.1.cell k (by simp [g1]), h.2.1.2 _ (List.getElem_mem g1)⟩))
      generalize RL[k] = x at hS HC
      obtain ⟨xs, xz, xc⟩ := x
      have hx3 := hS.2.2.1
      have HX := Lib.hid hS
      simp only [QueP.hdr] at HC hx3
      generalize hxl : xz.length = lx at HC hx3
      have HXL := Lib.hid hxl
      clear hS g1 hxl
      have hc1 := (HC.out _ sh.data).1
      by_cases hbig : 100 < lx
      · go_wp2_with (first
            | ((with_reducible refine Hp.wpl_box sh ?_ ?_); exact rfl; clear sh; (try clear F); go_simp; intro b w1 sh; have F := sh.facts; (try simp only [Hp.Facts, Hp.CellsAt, Nat.reduceAdd, List.cons_append, List.nil_append] at F))
            | ((with_reducible refine Hp.wpl_alloc Try.z_line sh ?_ ?_); exact rfl; clear sh; (try clear F); go_simp; intro b w1 sh; have F := sh.facts; (try simp only [Hp.Facts, Hp.CellsAt, Nat.reduceAdd, List.cons_append, List.nil_append] at F))
            | ((with_reducible refine Hp.wpl_alloc Try.z_chan sh ?_ ?_); exact rfl; clear sh; (try clear F); go_simp; intro b w1 sh; have F := sh.facts; (try simp only [Hp.Facts, Hp.CellsAt, Nat.reduceAdd, List.cons_append, List.nil_append] at F))
            | ((with_reducible refine Hp.atl_store ?_ ?_); exact rfl; (first | refine Hp.wp_store 0 sh rfl rfl rfl rfl (by kernel_rfl) (Nat.le_of_ble_eq_true rfl) rfl ?_ | refine Hp.wp_store 1 sh rfl rfl rfl rfl (by kernel_rfl) (Nat.le_of_ble_eq_true rfl) rfl ?_ | refine Hp.wp_store 2 sh rfl rfl rfl rfl (by kernel_rfl) (Nat.le_of_ble_eq_true rfl) rfl ?_ | refine Hp.wp_store 3 sh rfl rfl rfl rfl (by kernel_rfl) (Nat.le_of_ble_eq_true rfl) rfl ?_ | refine Hp.wp_store 4 sh rfl rfl rfl rfl (by kernel_rfl) (Nat.le_of_ble_eq_true rfl) rfl ?_ | refine Hp.wp_store 5 sh rfl rfl rfl rfl (by kernel_rfl) (Nat.le_of_ble_eq_true rfl) rfl ?_ | refine Hp.wp_store 6 sh rfl rfl rfl rfl (by kernel_rfl) (Nat.le_of_ble_eq_true rfl) rfl ?_); clear sh; (try clear F); go_simp; intro w1 sh; have F := sh.facts; (try simp only [Hp.Facts, Hp.CellsAt, Nat.reduceAdd, List.cons_append, List.nil_append] at F))
            | fail)
        go_ret
        exact ⟨rfl, sh.below⟩
      by_cases hpos : 0 < lx
      · have SN := Lib.hid (fun w1 H D sh hq hx => qsend kd fr tg size dep s hs cap n xs xz xc lx w w1 H D sh hsz hdp HH.out.2.1 HXL.out.symm HH.out.2.2.2.1 HX.out hq hx)
        go_wp2_with (first
            | ((with_reducible refine Hp.wpl_box sh ?_ ?_); exact rfl; clear sh; (try clear F); go_simp; intro b w1 sh; have F := sh.facts; (try simp only [Hp.Facts, Hp.CellsAt, Nat.reduceAdd, List.cons_append, List.nil_append] at F))
            | ((with_reducible refine Hp.wpl_alloc Try.z_line sh ?_ ?_); exact rfl; clear sh; (try clear F); go_simp; intro b w1 sh; have F := sh.facts; (try simp only [Hp.Facts, Hp.CellsAt, Nat.reduceAdd, List.cons_append, List.nil_append] at F))
            | ((with_reducible refine Hp.wpl_alloc Try.z_chan sh ?_ ?_); exact rfl; clear sh; (try clear F); go_simp; intro b w1 sh; have F := sh.facts; (try simp only [Hp.Facts, Hp.CellsAt, Nat.reduceAdd, List.cons_append, List.nil_append] at F))
            | ((with_reducible refine Hp.atl_store ?_ ?_); exact rfl; (first | refine Hp.wp_store 0 sh rfl rfl rfl rfl (by kernel_rfl) (Nat.le_of_ble_eq_true rfl) rfl ?_ | refine Hp.wp_store 1 sh rfl rfl rfl rfl (by kernel_rfl) (Nat.le_of_ble_eq_true rfl) rfl ?_ | refine Hp.wp_store 2 sh rfl rfl rfl rfl (by kernel_rfl) (Nat.le_of_ble_eq_true rfl) rfl ?_ | refine Hp.wp_store 3 sh rfl rfl rfl rfl (by kernel_rfl) (Nat.le_of_ble_eq_true rfl) rfl ?_ | refine Hp.wp_store 4 sh rfl rfl rfl rfl (by kernel_rfl) (Nat.le_of_ble_eq_true rfl) rfl ?_ | refine Hp.wp_store 5 sh rfl rfl rfl rfl (by kernel_rfl) (Nat.le_of_ble_eq_true rfl) rfl ?_ | refine Hp.wp_store 6 sh rfl rfl rfl rfl (by kernel_rfl) (Nat.le_of_ble_eq_true rfl) rfl ?_); clear sh; (try clear F); go_simp; intro w1 sh; have F := sh.facts; (try simp only [Hp.Facts, Hp.CellsAt, Nat.reduceAdd, List.cons_append, List.nil_append] at F))
            | fail)
        clear hc1
        go_cut [9, 10] from 17 to 102 (fun t e wx => ∃ (b9 : Nat) (c1 : Int) (s' : Option Addr) (hs' : List QueP.Hd) (cap' n' : Nat), t = .pointer (some ⟨b9, 0, none⟩) ∧ e = .int .i64 c1 ∧ Hid (n' = hs'.length ∧ c1 = QueP.scode size dep (QueP.qd (s, hs, cap)) xz.length ∧ QueP.QShape (s', hs', cap') ∧ (c1 = 0 → QueP.qd (s', hs', cap') = QueP.qd (s, hs, cap) ++ [xz])) ∧
          Hp.Sh w wx ([(b9, #[.slice s' n' cap'], 27), (bq, #[.slice s n cap], 27), (bc, #[.int .i64 kd, .int .i64 fr, .int .i64 tg, .int .i64 size, .int .i64 dep], 23)] ++ R) (fun W => QueP.QOk W (s', hs', cap') ∧ QueP.OrdD (s, hs, cap) (some p, RL, rcap) shs W))
        case first =>
          refine Hp.region_sh (by kernel_rfl) sh ?_; clear sh F; intro w1 sh; have F := sh.facts; (try simp only [Hp.Facts, Hp.CellsAt, Nat.reduceAdd, List.cons_append, List.nil_append] at F)
          refine Hp.take (i := 0) (oi := ⟨some 38, Op.load 23 (Operand.tmp 2), _, _, _, none⟩) (v := ?_) rfl (by kernel_rfl) (by kernel_rfl) (by kernel_rfl) (fun _ _ _ h => h) (by rfl) ⟨sh.facts, sh.data⟩ ?_ ?_
          rotate_left
          · intro w' hh
            have F' := hh.1; have hd := hh.2; clear hh; (try simp only [Hp.Facts, Hp.CellsAt, Nat.reduceAdd, List.cons_append, List.nil_append] at F'); have hc1 := (HC.out w' hd).1
            go_simp
            try with_reducible rfl
          (try simp only [Act.put, List.setIfInBounds_toArray, List.set_cons_zero, List.set_cons_succ])
          refine Hp.take (i := 1) (oi := ⟨some 39, Op.load 27 (Operand.tmp 5), _, _, _, none⟩) (v := ?_) rfl (by kernel_rfl) (by kernel_rfl) (by kernel_rfl) (fun _ _ _ h => h) (by rfl) ⟨sh.facts, sh.data⟩ ?_ ?_
          rotate_left
          · intro w' hh
            have F' := hh.1; have hd := hh.2; clear hh; (try simp only [Hp.Facts, Hp.CellsAt, Nat.reduceAdd, List.cons_append, List.nil_append] at F'); have hc1 := (HC.out w' hd).1
            go_simp
            try with_reducible rfl
          (try simp only [Act.put, List.setIfInBounds_toArray, List.set_cons_zero, List.set_cons_succ])
          refine Hp.take (i := 2) (oi := ⟨some 40, Op.move (Operand.tmp 1), _, _, _, none⟩) (v := ?_) rfl (by kernel_rfl) (by kernel_rfl) (by kernel_rfl) (fun _ _ _ h => h) (by rfl) ⟨sh.facts, sh.data⟩ ?_ ?_
          rotate_left
          · intro w' hh
            clear hh; go_simp
            try with_reducible rfl
          (try simp only [Act.put, List.setIfInBounds_toArray, List.set_cons_zero, List.set_cons_succ])
          refine Hp.take (i := 3) (oi := ⟨some 41, Op.move (Operand.tmp 8), _, _, _, none⟩) (v := ?_) rfl (by kernel_rfl) (by kernel_rfl) (by kernel_rfl) (fun _ _ _ h => h) (by rfl) ⟨sh.facts, sh.data⟩ ?_ ?_
          rotate_left
          · intro w' hh
            clear hh; go_simp
            try with_reducible rfl
          (try simp only [Act.put, List.setIfInBounds_toArray, List.set_cons_zero, List.set_cons_succ])
          refine Hp.take (i := 4) (oi := ⟨some 42, Op.indexAddr 24 (Operand.tmp 40) (Operand.tmp 41), _, _, _, none⟩) (v := ?_) rfl (by kernel_rfl) (by kernel_rfl) (by kernel_rfl) (fun _ _ _ h => h) (by rfl) ⟨sh.facts, sh.data⟩ ?_ ?_
          rotate_left
          · intro w' hh
            clear hh; go_simp
            try with_reducible rfl
          (try simp only [Act.put, List.setIfInBounds_toArray, List.set_cons_zero, List.set_cons_succ])
          refine Hp.take (i := 5) (oi := ⟨some 43, Op.fieldAddr 30 (Operand.tmp 42) 0, _, _, _, none⟩) (v := ?_) rfl (by kernel_rfl) (by kernel_rfl) (by kernel_rfl) (fun _ _ _ h => h) (by rfl) ⟨sh.facts, sh.data⟩ ?_ ?_
          rotate_left
          · intro w' hh
            clear hh; go_simp
            try with_reducible rfl
          (try simp only [Act.put, List.setIfInBounds_toArray, List.set_cons_zero, List.set_cons_succ])
          refine Hp.take (i := 6) (oi := ⟨some 44, Op.load 28 (Operand.tmp 43), _, _, _, none⟩) (v := ?_) rfl (by kernel_rfl) (by kernel_rfl) (by kernel_rfl) (fun _ _ _ h => h) (by rfl) ⟨sh.facts, sh.data⟩ ?_ ?_
          rotate_left
          · intro w' hh
            have F' := hh.1; have hd := hh.2; clear hh; (try simp only [Hp.Facts, Hp.CellsAt, Nat.reduceAdd, List.cons_append, List.nil_append] at F'); have hc1 := (HC.out w' hd).1
            go_simp
            try with_reducible rfl
          (try simp only [Act.put, List.setIfInBounds_toArray, List.set_cons_zero, List.set_cons_succ])
          refine Hp.branch [7, 11] (by kernel_rfl) (by simp) ?_
          refine Hp.Each.cons ?_ ?_
          · refine Hp.op_step (o := ⟨some 45, Op.call { callee := Callee.value (Operand.func 5), args := #[Operand.tmp 38, Operand.tmp 39, Operand.tmp 44], argTypes := #[23, 27, 28] }, _, _, _, none⟩) rfl (by rfl) (fun K hK => ?_)
            go_simp
            go_fit (SN.out _ _ _ sh (fun W h => h.1) (fun W h => (HC.out W h).2)); clear sh F; rintro e w1 ⟨s', hs', cap', n', c1, rfl, hh, sh⟩; have F := sh.facts; (try simp only [Hp.Facts, Hp.CellsAt, Nat.reduceAdd, List.cons_append, List.nil_append] at F); go_simp
            refine hK _ _ ⟨sh.facts, sh.data.2⟩ ?_; clear hK K; (try simp only [Act.put, List.setIfInBounds_toArray, List.set_cons_zero, List.set_cons_succ])
            refine Hp.take (i := 8) (oi := ⟨some 37, Op.move (Operand.tmp 45), _, _, _, none⟩) (v := ?_) rfl (by kernel_rfl) (by kernel_rfl) (by kernel_rfl) (fun _ _ _ h => h) (by rfl) ⟨sh.facts, sh.data.2⟩ ?_ ?_
            rotate_left
            · intro w' hh
              clear hh; go_simp
              try with_reducible rfl
            (try simp only [Act.put, List.setIfInBounds_toArray, List.set_cons_zero, List.set_cons_succ])
            refine Hp.take (i := 9) (oi := ⟨some 46, Op.extract (Operand.tmp 37) 0, _, _, _, none⟩) (v := ?_) rfl (by kernel_rfl) (by kernel_rfl) (by kernel_rfl) (fun _ _ _ h => h) (by rfl) ⟨sh.facts, sh.data.2⟩ ?_ ?_
            rotate_left
            · intro w' hh
              clear hh; go_simp
              try with_reducible rfl
            (try simp only [Act.put, List.setIfInBounds_toArray, List.set_cons_zero, List.set_cons_succ])
            refine Hp.take (i := 10) (oi := ⟨some 47, Op.extract (Operand.tmp 37) 1, _, _, _, none⟩) (v := ?_) rfl (by kernel_rfl) (by kernel_rfl) (by kernel_rfl) (fun _ _ _ h => h) (by rfl) ⟨sh.facts, sh.data.2⟩ ?_ ?_
            rotate_left
            · intro w' hh
              clear hh; go_simp
              try with_reducible rfl
            (try simp only [Act.put, List.setIfInBounds_toArray, List.set_cons_zero, List.set_cons_succ])
            refine Hp.branch [11] (by kernel_rfl) (by simp) ?_
            refine Hp.Each.cons ?_ ?_
            · refine Hp.op_step (o := ⟨some 9, Op.alloc 27, _, _, _, none⟩) rfl (by rfl) (fun K hK => ?_)
              (first | refine Hp.wp_alloc Try.z_line sh ?_ | refine Hp.wp_alloc Try.z_chan sh ?_); clear sh F; go_simp; intro b w1 sh; have F := sh.facts; (try simp only [Hp.Facts, Hp.CellsAt, Nat.reduceAdd, List.cons_append, List.nil_append] at F)
              refine hK _ _ ⟨sh.facts.2, sh.data.2⟩ ?_; clear hK K; (try simp only [Act.put, List.setIfInBounds_toArray, List.set_cons_zero, List.set_cons_succ])
              refine Hp.branch [12] (by kernel_rfl) (by simp) ?_
              refine Hp.Each.cons ?_ ?_
              · refine Hp.op_step (o := ⟨none, Op.store 27 (Operand.tmp 9) (Operand.tmp 46), _, _, _, none⟩) rfl (by rfl) (fun K hK => ?_)
                (first | refine Hp.wp_store 0 sh rfl rfl rfl rfl (by kernel_rfl) (Nat.le_of_ble_eq_true rfl) rfl ?_ | refine Hp.wp_store 1 sh rfl rfl rfl rfl (by kernel_rfl) (Nat.le_of_ble_eq_true rfl) rfl ?_ | refine Hp.wp_store 2 sh rfl rfl rfl rfl (by kernel_rfl) (Nat.le_of_ble_eq_true rfl) rfl ?_ | refine Hp.wp_store 3 sh rfl rfl rfl rfl (by kernel_rfl) (Nat.le_of_ble_eq_true rfl) rfl ?_ | refine Hp.wp_store 4 sh rfl rfl rfl rfl (by kernel_rfl) (Nat.le_of_ble_eq_true rfl) rfl ?_ | refine Hp.wp_store 5 sh rfl rfl rfl rfl (by kernel_rfl) (Nat.le_of_ble_eq_true rfl) rfl ?_ | refine Hp.wp_store 6 sh rfl rfl rfl rfl (by kernel_rfl) (Nat.le_of_ble_eq_true rfl) rfl ?_); clear sh F; go_simp; intro w1 sh; have F := sh.facts; (try simp only [Hp.Facts, Hp.CellsAt, Nat.reduceAdd, List.cons_append, List.nil_append] at F)
                refine hK _ _ ⟨sh.facts.2, sh.data.2⟩ ?_; clear hK K; (try simp only [Act.put, List.setIfInBounds_toArray, List.set_cons_zero, List.set_cons_succ])
                refine Hp.take (i := 13) (oi := ⟨some 10, Op.assign (Operand.tmp 47), _, _, _, none⟩) (v := ?_) rfl (by kernel_rfl) (by kernel_rfl) (by kernel_rfl) (fun _ _ _ h => h) (by rfl) ⟨sh.facts.2, sh.data.2⟩ ?_ ?_
                rotate_left
                · intro w' hh
                  clear hh; go_simp
                  try with_reducible rfl
                (try simp only [Act.put, List.setIfInBounds_toArray, List.set_cons_zero, List.set_cons_succ])
                refine wpAnyH_done (by kernel_rfl) ?_ _
                go_wp2; go_meet; case rel => exact ⟨_, _, _, _, _, _, rfl, rfl, hh, sh⟩
              exact Hp.Each.nil
            exact Hp.Each.nil
          refine Hp.Each.cons ?_ ?_
          · refine Hp.op_step (o := ⟨some 9, Op.alloc 27, _, _, _, none⟩) rfl (by rfl) (fun K hK => ?_)
            (first | refine Hp.wp_alloc Try.z_line sh ?_ | refine Hp.wp_alloc Try.z_chan sh ?_); clear sh F; go_simp; intro b w1 sh; have F := sh.facts; (try simp only [Hp.Facts, Hp.CellsAt, Nat.reduceAdd, List.cons_append, List.nil_append] at F)
            refine hK _ _ ⟨sh.facts.2, sh.data⟩ ?_; clear hK K; (try simp only [Act.put, List.setIfInBounds_toArray, List.set_cons_zero, List.set_cons_succ])
            refine Hp.branch [7] (by kernel_rfl) (by simp) ?_
            refine Hp.Each.cons ?_ ?_
            · refine Hp.op_step (o := ⟨some 45, Op.call { callee := Callee.value (Operand.func 5), args := #[Operand.tmp 38, Operand.tmp 39, Operand.tmp 44], argTypes := #[23, 27, 28] }, _, _, _, none⟩) rfl (by rfl) (fun K hK => ?_)
              go_simp
              go_fit (SN.out _ _ _ sh (fun W h => h.1) (fun W h => (HC.out W h).2)); clear sh F; rintro e w1 ⟨s', hs', cap', n', c1, rfl, hh, sh⟩; have F := sh.facts; (try simp only [Hp.Facts, Hp.CellsAt, Nat.reduceAdd, List.cons_append, List.nil_append] at F); go_simp
              refine hK _ _ ⟨sh.facts.2, sh.data.2⟩ ?_; clear hK K; (try simp only [Act.put, List.setIfInBounds_toArray, List.set_cons_zero, List.set_cons_succ])
              refine Hp.take (i := 8) (oi := ⟨some 37, Op.move (Operand.tmp 45), _, _, _, none⟩) (v := ?_) rfl (by kernel_rfl) (by kernel_rfl) (by kernel_rfl) (fun _ _ _ h => h) (by rfl) ⟨sh.facts.2, sh.data.2⟩ ?_ ?_
              rotate_left
              · intro w' hh
                clear hh; go_simp
                try with_reducible rfl
              (try simp only [Act.put, List.setIfInBounds_toArray, List.set_cons_zero, List.set_cons_succ])
              refine Hp.take (i := 9) (oi := ⟨some 46, Op.extract (Operand.tmp 37) 0, _, _, _, none⟩) (v := ?_) rfl (by kernel_rfl) (by kernel_rfl) (by kernel_rfl) (fun _ _ _ h => h) (by rfl) ⟨sh.facts.2, sh.data.2⟩ ?_ ?_
              rotate_left
              · intro w' hh
                clear hh; go_simp
                try with_reducible rfl
              (try simp only [Act.put, List.setIfInBounds_toArray, List.set_cons_zero, List.set_cons_succ])
              refine Hp.take (i := 10) (oi := ⟨some 47, Op.extract (Operand.tmp 37) 1, _, _, _, none⟩) (v := ?_) rfl (by kernel_rfl) (by kernel_rfl) (by kernel_rfl) (fun _ _ _ h => h) (by rfl) ⟨sh.facts.2, sh.data.2⟩ ?_ ?_
              rotate_left
              · intro w' hh
                clear hh; go_simp
                try with_reducible rfl
              (try simp only [Act.put, List.setIfInBounds_toArray, List.set_cons_zero, List.set_cons_succ])
              refine Hp.branch [12] (by kernel_rfl) (by simp) ?_
              refine Hp.Each.cons ?_ ?_
              · refine Hp.op_step (o := ⟨none, Op.store 27 (Operand.tmp 9) (Operand.tmp 46), _, _, _, none⟩) rfl (by rfl) (fun K hK => ?_)
                (first | refine Hp.wp_store 0 sh rfl rfl rfl rfl (by kernel_rfl) (Nat.le_of_ble_eq_true rfl) rfl ?_ | refine Hp.wp_store 1 sh rfl rfl rfl rfl (by kernel_rfl) (Nat.le_of_ble_eq_true rfl) rfl ?_ | refine Hp.wp_store 2 sh rfl rfl rfl rfl (by kernel_rfl) (Nat.le_of_ble_eq_true rfl) rfl ?_ | refine Hp.wp_store 3 sh rfl rfl rfl rfl (by kernel_rfl) (Nat.le_of_ble_eq_true rfl) rfl ?_ | refine Hp.wp_store 4 sh rfl rfl rfl rfl (by kernel_rfl) (Nat.le_of_ble_eq_true rfl) rfl ?_ | refine Hp.wp_store 5 sh rfl rfl rfl rfl (by kernel_rfl) (Nat.le_of_ble_eq_true rfl) rfl ?_ | refine Hp.wp_store 6 sh rfl rfl rfl rfl (by kernel_rfl) (Nat.le_of_ble_eq_true rfl) rfl ?_); clear sh F; go_simp; intro w1 sh; have F := sh.facts; (try simp only [Hp.Facts, Hp.CellsAt, Nat.reduceAdd, List.cons_append, List.nil_append] at F)
                refine hK _ _ ⟨sh.facts.2, sh.data.2⟩ ?_; clear hK K; (try simp only [Act.put, List.setIfInBounds_toArray, List.set_cons_zero, List.set_cons_succ])
                refine Hp.take (i := 13) (oi := ⟨some 10, Op.assign (Operand.tmp 47), _, _, _, none⟩) (v := ?_) rfl (by kernel_rfl) (by kernel_rfl) (by kernel_rfl) (fun _ _ _ h => h) (by rfl) ⟨sh.facts.2, sh.data.2⟩ ?_ ?_
                rotate_left
                · intro w' hh
                  clear hh; go_simp
                  try with_reducible rfl
                (try simp only [Act.put, List.setIfInBounds_toArray, List.set_cons_zero, List.set_cons_succ])
                refine wpAnyH_done (by kernel_rfl) ?_ _
                go_wp2; go_meet; case rel => exact ⟨_, _, _, _, _, _, rfl, rfl, hh, sh⟩
              exact Hp.Each.nil
            exact Hp.Each.nil
          exact Hp.Each.nil
        case rest =>
          clear sh F
          obtain ⟨b9, c1, s', hs', cap', n', rfl, rfl, hh, sh⟩ := hcut
          have F := sh.facts; (try simp only [Hp.Facts, Hp.CellsAt, Nat.reduceAdd, List.cons_append, List.nil_append] at F)
          have hc1 := (HC.out _ sh.data.2).1
          by_cases h0 : c1 = 0
          · subst h0
            obtain ⟨hh1, -, hh3, hh4⟩ := hh.out
            have hq' := hh4 rfl
            have HH2 := Lib.hid (And.intro hh1 (And.intro hh3 hq'))
            clear hh1 hh3 hh4 hq' hh
            go_wp2_with (first
                | ((with_reducible refine Hp.atl_lit ?_ ?_); exact rfl; (refine Hp.wp_lit 1 [Value.slice xs lx xc] Try.i_row Try.underlying25 sh rfl rfl (by omega) rfl ?_); clear sh; (try clear F); intro b w1 sh; replace sh := sh.freeze1 (vs := [Value.slice xs lx xc]) (fun i v h => by simpa using h); have F := sh.facts; (try simp only [Hp.Facts, Hp.CellsAt, Nat.reduceAdd, List.cons_append, List.nil_append] at F); (try clear hc1); (try (first | (have hc1 := (HC.out _ (sh.data)).1) | (have hc1 := (HC.out _ (sh.data.2)).1) | (have hc1 := (HC.out _ (sh.data.2.2)).1) | (have hc1 := (HC.out _ (sh.data.2.2.2)).1) | (have hc1 := (HC.out _ (sh.data.2.2.2.2)).1))); go_simp)
                | ((with_reducible refine Hp.atl_append 51 ?_ ?_); exact rfl; go_loud (refine Hp.wp_append (R := R) (H := [(b9, _, _), (bq, _, _), (bc, _, _)]) (news := [Value.slice xs lx xc]) Try.i_row Try.underlying25 (by decide) rfl (by decide) (sh.front (A := [_, _, _]) (R := R)) HH.out.2.2.2.2.2 rfl rfl rfl sh.data.1 (fun h => by cases h) (Hp.ones_mem rfl) (by omega) ?_); clear sh F; intro v1 R1 w1 sh hr; have HR := Lib.hid hr; clear hr; go_simp)
                | ((with_reducible refine Hp.wpl_box sh ?_ ?_); exact rfl; clear sh; (try clear F); go_simp; intro b w1 sh; have F := sh.facts; (try simp only [Hp.Facts, Hp.CellsAt, Nat.reduceAdd, List.cons_append, List.nil_append] at F); (try clear hc1); (try (first | (have hc1 := (HC.out _ (sh.data)).1) | (have hc1 := (HC.out _ (sh.data.2)).1) | (have hc1 := (HC.out _ (sh.data.2.2)).1) | (have hc1 := (HC.out _ (sh.data.2.2.2)).1) | (have hc1 := (HC.out _ (sh.data.2.2.2.2)).1))))
                | ((with_reducible refine Hp.wpl_alloc Try.z_line sh ?_ ?_); exact rfl; clear sh; (try clear F); go_simp; intro b w1 sh; have F := sh.facts; (try simp only [Hp.Facts, Hp.CellsAt, Nat.reduceAdd, List.cons_append, List.nil_append] at F); (try clear hc1); (try (first | (have hc1 := (HC.out _ (sh.data)).1) | (have hc1 := (HC.out _ (sh.data.2)).1) | (have hc1 := (HC.out _ (sh.data.2.2)).1) | (have hc1 := (HC.out _ (sh.data.2.2.2)).1) | (have hc1 := (HC.out _ (sh.data.2.2.2.2)).1))))
                | ((with_reducible refine Hp.wpl_alloc Try.z_chan sh ?_ ?_); exact rfl; clear sh; (try clear F); go_simp; intro b w1 sh; have F := sh.facts; (try simp only [Hp.Facts, Hp.CellsAt, Nat.reduceAdd, List.cons_append, List.nil_append] at F); (try clear hc1); (try (first | (have hc1 := (HC.out _ (sh.data)).1) | (have hc1 := (HC.out _ (sh.data.2)).1) | (have hc1 := (HC.out _ (sh.data.2.2)).1) | (have hc1 := (HC.out _ (sh.data.2.2.2)).1) | (have hc1 := (HC.out _ (sh.data.2.2.2.2)).1))))
                | ((with_reducible refine Hp.atl_store ?_ ?_); exact rfl; (first | refine Hp.wp_store 0 sh rfl rfl rfl rfl (by kernel_rfl) (Nat.le_of_ble_eq_true rfl) rfl ?_ | refine Hp.wp_store 1 sh rfl rfl rfl rfl (by kernel_rfl) (Nat.le_of_ble_eq_true rfl) rfl ?_ | refine Hp.wp_store 2 sh rfl rfl rfl rfl (by kernel_rfl) (Nat.le_of_ble_eq_true rfl) rfl ?_ | refine Hp.wp_store 3 sh rfl rfl rfl rfl (by kernel_rfl) (Nat.le_of_ble_eq_true rfl) rfl ?_ | refine Hp.wp_store 4 sh rfl rfl rfl rfl (by kernel_rfl) (Nat.le_of_ble_eq_true rfl) rfl ?_ | refine Hp.wp_store 5 sh rfl rfl rfl rfl (by kernel_rfl) (Nat.le_of_ble_eq_true rfl) rfl ?_ | refine Hp.wp_store 6 sh rfl rfl rfl rfl (by kernel_rfl) (Nat.le_of_ble_eq_true rfl) rfl ?_); clear sh; (try clear F); go_simp; intro w1 sh; have F := sh.facts; (try simp only [Hp.Facts, Hp.CellsAt, Nat.reduceAdd, List.cons_append, List.nil_append] at F); (try clear hc1); (try (first | (have hc1 := (HC.out _ (sh.data)).1) | (have hc1 := (HC.out _ (sh.data.2)).1) | (have hc1 := (HC.out _ (sh.data.2.2)).1) | (have hc1 := (HC.out _ (sh.data.2.2.2)).1) | (have hc1 := (HC.out _ (sh.data.2.2.2.2)).1))))
                | fail)
            obtain ⟨s7, c7, rfl, -, -, -⟩ := HR.out.slice
            go_roundw
            case rel =>
              refine ⟨k + 1, g, n6 + 1, s7, c7, shs ++ [(xs, xz, xc)], R1, s', hs', cap', n', rfl, rfl, by go_num, by omega, by omega, by omega, ⟨?_, HH2.out.1, ?_, HH2.out.2.1, ?_, ?_⟩, ((sh.sub (List.Sublist.append_left (List.sublist_cons_self _ _) _)).front).imp ?_⟩
              · simp [HH.out.1]
              · intro h hh
                rcases List.mem_append.1 hh with hh | hh
                · exact HH.out.2.2.1 h hh
                · simp only [List.mem_singleton] at hh
                  subst hh
                  exact HX.out
              · rw [HH2.out.2.2, HH.out.2.2.2.2.1]
                simp only [List.map_append, List.map_cons, List.map_nil]
                rw [List.drop_append_of_le_length (by rw [List.length_map, ← HH.out.1]; exact hg)]
              · have h := HR.out
                simp only [List.map_append, List.map_cons, List.map_nil, QueP.hdr, HXL.out]
                exact h
              · intro W h
                refine ⟨h.2.1, h.2.2.2.1, fun x hx => ?_⟩
                rcases List.mem_append.1 hx with hx | hx
                · exact h.2.2.2.2 x hx
                · simp only [List.mem_singleton] at hx
                  subst hx
                  exact (HC.out W h.2.2).2
            case measure => simp [intOf]; omega
          · by_cases h8 : c1 = 8
            · subst h8
              have hq := QueP.scode_8 hh.out.2.1.symm
              rw [HH.out.2.2.2.2.1, List.length_drop, List.length_map, ← HH.out.1] at hq
              have e1 : ((n6 : Int) - g == dep) = true := by rw [beq_iff_eq]; omega
              have e2 : ((n6 : Int) - g != dep) = false := by rw [bne_eq_false_iff_eq]; omega
              clear hq hh
              go_wp2_with (first
                  | ((with_reducible refine Hp.wpl_box sh ?_ ?_); exact rfl; clear sh; (try clear F); go_simp; intro b w1 sh; have F := sh.facts; (try simp only [Hp.Facts, Hp.CellsAt, Nat.reduceAdd, List.cons_append, List.nil_append] at F))
                  | ((with_reducible refine Hp.wpl_alloc Try.z_line sh ?_ ?_); exact rfl; clear sh; (try clear F); go_simp; intro b w1 sh; have F := sh.facts; (try simp only [Hp.Facts, Hp.CellsAt, Nat.reduceAdd, List.cons_append, List.nil_append] at F))
                  | ((with_reducible refine Hp.wpl_alloc Try.z_chan sh ?_ ?_); exact rfl; clear sh; (try clear F); go_simp; intro b w1 sh; have F := sh.facts; (try simp only [Hp.Facts, Hp.CellsAt, Nat.reduceAdd, List.cons_append, List.nil_append] at F))
                  | ((with_reducible refine Hp.atl_store ?_ ?_); exact rfl; (first | refine Hp.wp_store 0 sh rfl rfl rfl rfl (by kernel_rfl) (Nat.le_of_ble_eq_true rfl) rfl ?_ | refine Hp.wp_store 1 sh rfl rfl rfl rfl (by kernel_rfl) (Nat.le_of_ble_eq_true rfl) rfl ?_ | refine Hp.wp_store 2 sh rfl rfl rfl rfl (by kernel_rfl) (Nat.le_of_ble_eq_true rfl) rfl ?_ | refine Hp.wp_store 3 sh rfl rfl rfl rfl (by kernel_rfl) (Nat.le_of_ble_eq_true rfl) rfl ?_ | refine Hp.wp_store 4 sh rfl rfl rfl rfl (by kernel_rfl) (Nat.le_of_ble_eq_true rfl) rfl ?_ | refine Hp.wp_store 5 sh rfl rfl rfl rfl (by kernel_rfl) (Nat.le_of_ble_eq_true rfl) rfl ?_ | refine Hp.wp_store 6 sh rfl rfl rfl rfl (by kernel_rfl) (Nat.le_of_ble_eq_true rfl) rfl ?_); clear sh; (try clear F); go_simp; intro w1 sh; have F := sh.facts; (try simp only [Hp.Facts, Hp.CellsAt, Nat.reduceAdd, List.cons_append, List.nil_append] at F))
                  | fail)
              go_roundw
              case rel => exact ⟨k + 1, g, n6, s6, c6, shs, R, s, hs, cap, n, rfl, rfl, by go_num, by omega, by omega, by omega, HH.out, sh.drop1.imp fun W h => h.2⟩
              case measure => simp [intOf]; omega
            · clear hh
              go_wp2_with (first
                  | ((with_reducible refine Hp.wpl_box sh ?_ ?_); exact rfl; clear sh; (try clear F); go_simp; intro b w1 sh; have F := sh.facts; (try simp only [Hp.Facts, Hp.CellsAt, Nat.reduceAdd, List.cons_append, List.nil_append] at F))
                  | ((with_reducible refine Hp.wpl_alloc Try.z_line sh ?_ ?_); exact rfl; clear sh; (try clear F); go_simp; intro b w1 sh; have F := sh.facts; (try simp only [Hp.Facts, Hp.CellsAt, Nat.reduceAdd, List.cons_append, List.nil_append] at F))
                  | ((with_reducible refine Hp.wpl_alloc Try.z_chan sh ?_ ?_); exact rfl; clear sh; (try clear F); go_simp; intro b w1 sh; have F := sh.facts; (try simp only [Hp.Facts, Hp.CellsAt, Nat.reduceAdd, List.cons_append, List.nil_append] at F))
                  | ((with_reducible refine Hp.atl_store ?_ ?_); exact rfl; (first | refine Hp.wp_store 0 sh rfl rfl rfl rfl (by kernel_rfl) (Nat.le_of_ble_eq_true rfl) rfl ?_ | refine Hp.wp_store 1 sh rfl rfl rfl rfl (by kernel_rfl) (Nat.le_of_ble_eq_true rfl) rfl ?_ | refine Hp.wp_store 2 sh rfl rfl rfl rfl (by kernel_rfl) (Nat.le_of_ble_eq_true rfl) rfl ?_ | refine Hp.wp_store 3 sh rfl rfl rfl rfl (by kernel_rfl) (Nat.le_of_ble_eq_true rfl) rfl ?_ | refine Hp.wp_store 4 sh rfl rfl rfl rfl (by kernel_rfl) (Nat.le_of_ble_eq_true rfl) rfl ?_ | refine Hp.wp_store 5 sh rfl rfl rfl rfl (by kernel_rfl) (Nat.le_of_ble_eq_true rfl) rfl ?_ | refine Hp.wp_store 6 sh rfl rfl rfl rfl (by kernel_rfl) (Nat.le_of_ble_eq_true rfl) rfl ?_); clear sh; (try clear F); go_simp; intro w1 sh; have F := sh.facts; (try simp only [Hp.Facts, Hp.CellsAt, Nat.reduceAdd, List.cons_append, List.nil_append] at F))
                  | fail)
              go_roundw
              case rel => exact ⟨k + 1, g, n6, s6, c6, shs, R, s, hs, cap, n, rfl, rfl, by go_num, by omega, by omega, by omega, HH.out, sh.drop1.imp fun W h => h.2⟩
              case measure => simp [intOf]; omega
      · have RC := Lib.hid (fun w1 H D sh hq => qrecv kd fr tg size dep s hs cap n w w1 H D sh hsz hdp HH.out.2.1 HH.out.2.2.2.1 hq)
        have tok_b12 : True := trivial
        go_wp2_with (first
            | ((have tok := tok_b12); clear tok tok_b12; (first | (with_reducible refine Hp.wpl_box sh ?_ ?_) | (with_reducible refine Hp.wpl_alloc Try.z_line sh ?_ ?_) | (with_reducible refine Hp.wpl_alloc Try.z_chan sh ?_ ?_)); exact rfl; clear sh; (try clear F); go_simp; intro b12 w1 sh; have F := sh.facts; (try simp only [Hp.Facts, Hp.CellsAt, Nat.reduceAdd, List.cons_append, List.nil_append] at F))
            | ((with_reducible refine Hp.wpl_box sh ?_ ?_); exact rfl; clear sh; (try clear F); go_simp; intro b w1 sh; have F := sh.facts; (try simp only [Hp.Facts, Hp.CellsAt, Nat.reduceAdd, List.cons_append, List.nil_append] at F))
            | ((with_reducible refine Hp.wpl_alloc Try.z_line sh ?_ ?_); exact rfl; clear sh; (try clear F); go_simp; intro b w1 sh; have F := sh.facts; (try simp only [Hp.Facts, Hp.CellsAt, Nat.reduceAdd, List.cons_append, List.nil_append] at F))
            | ((with_reducible refine Hp.wpl_alloc Try.z_chan sh ?_ ?_); exact rfl; clear sh; (try clear F); go_simp; intro b w1 sh; have F := sh.facts; (try simp only [Hp.Facts, Hp.CellsAt, Nat.reduceAdd, List.cons_append, List.nil_append] at F))
            | ((with_reducible refine Hp.atl_store ?_ ?_); exact rfl; (first | refine Hp.wp_store 0 sh rfl rfl rfl rfl (by kernel_rfl) (Nat.le_of_ble_eq_true rfl) rfl ?_ | refine Hp.wp_store 1 sh rfl rfl rfl rfl (by kernel_rfl) (Nat.le_of_ble_eq_true rfl) rfl ?_ | refine Hp.wp_store 2 sh rfl rfl rfl rfl (by kernel_rfl) (Nat.le_of_ble_eq_true rfl) rfl ?_ | refine Hp.wp_store 3 sh rfl rfl rfl rfl (by kernel_rfl) (Nat.le_of_ble_eq_true rfl) rfl ?_ | refine Hp.wp_store 4 sh rfl rfl rfl rfl (by kernel_rfl) (Nat.le_of_ble_eq_true rfl) rfl ?_ | refine Hp.wp_store 5 sh rfl rfl rfl rfl (by kernel_rfl) (Nat.le_of_ble_eq_true rfl) rfl ?_ | refine Hp.wp_store 6 sh rfl rfl rfl rfl (by kernel_rfl) (Nat.le_of_ble_eq_true rfl) rfl ?_); clear sh; (try clear F); go_simp; intro w1 sh; have F := sh.facts; (try simp only [Hp.Facts, Hp.CellsAt, Nat.reduceAdd, List.cons_append, List.nil_append] at F))
            | fail)
        go_fit (RC.out _ _ _ sh (fun W h => h.1))
        clear sh; (try clear F)
        rintro e w1 ⟨x5, xz5, xc5, xn5, s', hs', cap', n', c3, rfl, hh, sh⟩
        have F := sh.facts; (try simp only [Hp.Facts, Hp.CellsAt, Nat.reduceAdd, List.cons_append, List.nil_append] at F)
        by_cases h0 : c3 = 0
        · subst h0
          have hq := hh.out.2.2.2.2.2 rfl
          rw [HH.out.2.2.2.2.1] at hq
          obtain ⟨hgl, hgx, hgr⟩ := QueP.drop_cons hq
          rw [List.length_map, ← HH.out.1] at hgl
          have g2 : g < shs.length := by rw [← HH.out.1]; exact hgl
          have HG : Hid ((shs.map QueP.hdr)[g]? = some (QueP.hdr shs[g]) ∧ shs[g].2.1 = xz5 ∧ ∀ W, QueP.Ok W shs → Hp.RdV W shs[g].1 (ints shs[g].2.1)) := ⟨by simp [g2], by simpa [g2] using hgx, fun W h => h _ (List.getElem_mem g2)⟩
          generalize shs[g] = y at HG
          obtain ⟨y1, y2, y3⟩ := y
          obtain rfl : y2 = xz5 := HG.out.2.1
          have HG1 := HG.out.1
          have HG3 := Lib.hid HG.out.2.2
          simp only [QueP.hdr, ← hh.out.2.1] at HG1
          have HGC := Lib.hid HG1
          obtain ⟨p6, rfl⟩ : ∃ p, s6 = some p := by
            cases s6 with
            | none =>
              obtain ⟨s7, c7, e, h7, -⟩ := HH.out.2.2.2.2.2.slice
              simp only [Value.slice.injEq, true_and] at e
              have := (h7 e.1.symm).1
              omega
            | some p => exact ⟨p, rfl⟩
          have hx5 := hh.out.2.2.2.2.1.2.2.1
          rw [← hh.out.2.1] at hx5
          have S1 := Lib.hid (fun W h1 h2 => same19 x5 y1 y2 y2 xn5 xn5 xc5 y3 W hh.out.2.1 hh.out.2.1 h1 h2 (by omega))
          rw [show (y2 == y2) = true by simp] at S1
          have HGR := Lib.hid (And.intro hh.out.1 (And.intro hh.out.2.2.2.1 hgr))
          clear hq hgx hgr g2 HG HG1 hh
          have hb1 : decide ((n6 : Int) ≤ (g : Int)) = false := by rw [decide_eq_false_iff_not]; omega
          have hb2 : (0 : Int) ≤ (g : Int) := by omega
          have hb3 : (g : Int) < (n6 : Int) := by omega
          have tok_b12 : True := trivial
          go_wp2_with (first
              | ((have tok := tok_b12); clear tok tok_b12; (first | (with_reducible refine Hp.wpl_box sh ?_ ?_) | (with_reducible refine Hp.wpl_alloc Try.z_line sh ?_ ?_) | (with_reducible refine Hp.wpl_alloc Try.z_chan sh ?_ ?_)); exact rfl; clear sh; (try clear F); go_simp; intro b12 w1 sh; have F := sh.facts; (try simp only [Hp.Facts, Hp.CellsAt, Nat.reduceAdd, List.cons_append, List.nil_append] at F); (try clear hc6); (try (first | (have hc6 := ((sh.front (A := [_, _, _]) (R := R)).cells HH.out.2.2.2.2.2).cell g HGC.out) | (have hc6 := ((sh.front (A := [_, _, _]) (R := R)).cells HH.out.2.2.2.2.2).cell g HGC.out) | (have hc6 := ((sh.front (A := [_, _, _]) (R := R)).cells HH.out.2.2.2.2.2).cell g HGC.out) | (have hc6 := ((sh.front (A := [_, _, _]) (R := R)).cells HH.out.2.2.2.2.2).cell g HGC.out) | (have hc6 := ((sh.front (A := [_, _, _]) (R := R)).cells HH.out.2.2.2.2.2).cell g HGC.out))))
              | ((with_reducible refine Hp.wpl_box sh ?_ ?_); exact rfl; clear sh; (try clear F); go_simp; intro b w1 sh; have F := sh.facts; (try simp only [Hp.Facts, Hp.CellsAt, Nat.reduceAdd, List.cons_append, List.nil_append] at F); (try clear hc6); (try (first | (have hc6 := ((sh.front (A := [_, _, _]) (R := R)).cells HH.out.2.2.2.2.2).cell g HGC.out) | (have hc6 := ((sh.front (A := [_, _, _]) (R := R)).cells HH.out.2.2.2.2.2).cell g HGC.out) | (have hc6 := ((sh.front (A := [_, _, _]) (R := R)).cells HH.out.2.2.2.2.2).cell g HGC.out) | (have hc6 := ((sh.front (A := [_, _, _]) (R := R)).cells HH.out.2.2.2.2.2).cell g HGC.out) | (have hc6 := ((sh.front (A := [_, _, _]) (R := R)).cells HH.out.2.2.2.2.2).cell g HGC.out))))
              | ((with_reducible refine Hp.wpl_alloc Try.z_line sh ?_ ?_); exact rfl; clear sh; (try clear F); go_simp; intro b w1 sh; have F := sh.facts; (try simp only [Hp.Facts, Hp.CellsAt, Nat.reduceAdd, List.cons_append, List.nil_append] at F); (try clear hc6); (try (first | (have hc6 := ((sh.front (A := [_, _, _]) (R := R)).cells HH.out.2.2.2.2.2).cell g HGC.out) | (have hc6 := ((sh.front (A := [_, _, _]) (R := R)).cells HH.out.2.2.2.2.2).cell g HGC.out) | (have hc6 := ((sh.front (A := [_, _, _]) (R := R)).cells HH.out.2.2.2.2.2).cell g HGC.out) | (have hc6 := ((sh.front (A := [_, _, _]) (R := R)).cells HH.out.2.2.2.2.2).cell g HGC.out) | (have hc6 := ((sh.front (A := [_, _, _]) (R := R)).cells HH.out.2.2.2.2.2).cell g HGC.out))))
              | ((with_reducible refine Hp.wpl_alloc Try.z_chan sh ?_ ?_); exact rfl; clear sh; (try clear F); go_simp; intro b w1 sh; have F := sh.facts; (try simp only [Hp.Facts, Hp.CellsAt, Nat.reduceAdd, List.cons_append, List.nil_append] at F); (try clear hc6); (try (first | (have hc6 := ((sh.front (A := [_, _, _]) (R := R)).cells HH.out.2.2.2.2.2).cell g HGC.out) | (have hc6 := ((sh.front (A := [_, _, _]) (R := R)).cells HH.out.2.2.2.2.2).cell g HGC.out) | (have hc6 := ((sh.front (A := [_, _, _]) (R := R)).cells HH.out.2.2.2.2.2).cell g HGC.out) | (have hc6 := ((sh.front (A := [_, _, _]) (R := R)).cells HH.out.2.2.2.2.2).cell g HGC.out) | (have hc6 := ((sh.front (A := [_, _, _]) (R := R)).cells HH.out.2.2.2.2.2).cell g HGC.out))))
              | ((with_reducible refine Hp.atl_store ?_ ?_); exact rfl; (first | refine Hp.wp_store 0 sh rfl rfl rfl rfl (by kernel_rfl) (Nat.le_of_ble_eq_true rfl) rfl ?_ | refine Hp.wp_store 1 sh rfl rfl rfl rfl (by kernel_rfl) (Nat.le_of_ble_eq_true rfl) rfl ?_ | refine Hp.wp_store 2 sh rfl rfl rfl rfl (by kernel_rfl) (Nat.le_of_ble_eq_true rfl) rfl ?_ | refine Hp.wp_store 3 sh rfl rfl rfl rfl (by kernel_rfl) (Nat.le_of_ble_eq_true rfl) rfl ?_ | refine Hp.wp_store 4 sh rfl rfl rfl rfl (by kernel_rfl) (Nat.le_of_ble_eq_true rfl) rfl ?_ | refine Hp.wp_store 5 sh rfl rfl rfl rfl (by kernel_rfl) (Nat.le_of_ble_eq_true rfl) rfl ?_ | refine Hp.wp_store 6 sh rfl rfl rfl rfl (by kernel_rfl) (Nat.le_of_ble_eq_true rfl) rfl ?_); clear sh; (try clear F); go_simp; intro w1 sh; have F := sh.facts; (try simp only [Hp.Facts, Hp.CellsAt, Nat.reduceAdd, List.cons_append, List.nil_append] at F); (try clear hc6); (try (first | (have hc6 := ((sh.front (A := [_, _, _]) (R := R)).cells HH.out.2.2.2.2.2).cell g HGC.out) | (have hc6 := ((sh.front (A := [_, _, _]) (R := R)).cells HH.out.2.2.2.2.2).cell g HGC.out) | (have hc6 := ((sh.front (A := [_, _, _]) (R := R)).cells HH.out.2.2.2.2.2).cell g HGC.out) | (have hc6 := ((sh.front (A := [_, _, _]) (R := R)).cells HH.out.2.2.2.2.2).cell g HGC.out) | (have hc6 := ((sh.front (A := [_, _, _]) (R := R)).cells HH.out.2.2.2.2.2).cell g HGC.out))))
              | fail)
          go_fit (S1.out _ sh.data.1.1 (HG3.out _ sh.data.2.2.2))
          rintro e w1 ⟨rfl, hb⟩
          replace sh := sh.call hb; clear hb F
          have F := sh.facts; (try simp only [Hp.Facts, Hp.CellsAt, Nat.reduceAdd, List.cons_append, List.nil_append] at F)
          go_wp2_with (first
              | ((with_reducible refine Hp.wpl_box sh ?_ ?_); exact rfl; clear sh; (try clear F); go_simp; intro b w1 sh; have F := sh.facts; (try simp only [Hp.Facts, Hp.CellsAt, Nat.reduceAdd, List.cons_append, List.nil_append] at F))
              | ((with_reducible refine Hp.wpl_alloc Try.z_line sh ?_ ?_); exact rfl; clear sh; (try clear F); go_simp; intro b w1 sh; have F := sh.facts; (try simp only [Hp.Facts, Hp.CellsAt, Nat.reduceAdd, List.cons_append, List.nil_append] at F))
              | ((with_reducible refine Hp.wpl_alloc Try.z_chan sh ?_ ?_); exact rfl; clear sh; (try clear F); go_simp; intro b w1 sh; have F := sh.facts; (try simp only [Hp.Facts, Hp.CellsAt, Nat.reduceAdd, List.cons_append, List.nil_append] at F))
              | ((with_reducible refine Hp.atl_store ?_ ?_); exact rfl; (first | refine Hp.wp_store 0 sh rfl rfl rfl rfl (by kernel_rfl) (Nat.le_of_ble_eq_true rfl) rfl ?_ | refine Hp.wp_store 1 sh rfl rfl rfl rfl (by kernel_rfl) (Nat.le_of_ble_eq_true rfl) rfl ?_ | refine Hp.wp_store 2 sh rfl rfl rfl rfl (by kernel_rfl) (Nat.le_of_ble_eq_true rfl) rfl ?_ | refine Hp.wp_store 3 sh rfl rfl rfl rfl (by kernel_rfl) (Nat.le_of_ble_eq_true rfl) rfl ?_ | refine Hp.wp_store 4 sh rfl rfl rfl rfl (by kernel_rfl) (Nat.le_of_ble_eq_true rfl) rfl ?_ | refine Hp.wp_store 5 sh rfl rfl rfl rfl (by kernel_rfl) (Nat.le_of_ble_eq_true rfl) rfl ?_ | refine Hp.wp_store 6 sh rfl rfl rfl rfl (by kernel_rfl) (Nat.le_of_ble_eq_true rfl) rfl ?_); clear sh; (try clear F); go_simp; intro w1 sh; have F := sh.facts; (try simp only [Hp.Facts, Hp.CellsAt, Nat.reduceAdd, List.cons_append, List.nil_append] at F))
              | fail)
          go_roundw
          case rel => exact ⟨k + 1, g + 1, n6, some p6, c6, shs, R, s', hs', cap', n', rfl, by go_num, by go_num, by omega, by omega, by omega, ⟨HH.out.1, HGR.out.1, HH.out.2.2.1, HGR.out.2.1, HGR.out.2.2, HH.out.2.2.2.2.2⟩, sh.drop1.imp fun W h => ⟨h.1.2, h.2.2.1, h.2.2.2⟩⟩
          case measure => simp [intOf]; omega
        · by_cases h15 : c3 = 15
          · subst h15
            have hq := QueP.rcode_15 hh.out.2.2.1.symm
            rw [HH.out.2.2.2.2.1] at hq
            have hgn : g = n6 := by
              have := congrArg List.length hq
              simp [← HH.out.1] at this
              omega
            clear hq hh
            have e2 : ((g : Int) != (n6 : Int)) = false := by rw [bne_eq_false_iff_eq]; omega
            clear hgn
            have tok_b12 : True := trivial
            go_wp2_with (first
                | ((have tok := tok_b12); clear tok tok_b12; (first | (with_reducible refine Hp.wpl_box sh ?_ ?_) | (with_reducible refine Hp.wpl_alloc Try.z_line sh ?_ ?_) | (with_reducible refine Hp.wpl_alloc Try.z_chan sh ?_ ?_)); exact rfl; clear sh; (try clear F); go_simp; intro b12 w1 sh; have F := sh.facts; (try simp only [Hp.Facts, Hp.CellsAt, Nat.reduceAdd, List.cons_append, List.nil_append] at F))
                | ((with_reducible refine Hp.wpl_box sh ?_ ?_); exact rfl; clear sh; (try clear F); go_simp; intro b w1 sh; have F := sh.facts; (try simp only [Hp.Facts, Hp.CellsAt, Nat.reduceAdd, List.cons_append, List.nil_append] at F))
                | ((with_reducible refine Hp.wpl_alloc Try.z_line sh ?_ ?_); exact rfl; clear sh; (try clear F); go_simp; intro b w1 sh; have F := sh.facts; (try simp only [Hp.Facts, Hp.CellsAt, Nat.reduceAdd, List.cons_append, List.nil_append] at F))
                | ((with_reducible refine Hp.wpl_alloc Try.z_chan sh ?_ ?_); exact rfl; clear sh; (try clear F); go_simp; intro b w1 sh; have F := sh.facts; (try simp only [Hp.Facts, Hp.CellsAt, Nat.reduceAdd, List.cons_append, List.nil_append] at F))
                | ((with_reducible refine Hp.atl_store ?_ ?_); exact rfl; (first | refine Hp.wp_store 0 sh rfl rfl rfl rfl (by kernel_rfl) (Nat.le_of_ble_eq_true rfl) rfl ?_ | refine Hp.wp_store 1 sh rfl rfl rfl rfl (by kernel_rfl) (Nat.le_of_ble_eq_true rfl) rfl ?_ | refine Hp.wp_store 2 sh rfl rfl rfl rfl (by kernel_rfl) (Nat.le_of_ble_eq_true rfl) rfl ?_ | refine Hp.wp_store 3 sh rfl rfl rfl rfl (by kernel_rfl) (Nat.le_of_ble_eq_true rfl) rfl ?_ | refine Hp.wp_store 4 sh rfl rfl rfl rfl (by kernel_rfl) (Nat.le_of_ble_eq_true rfl) rfl ?_ | refine Hp.wp_store 5 sh rfl rfl rfl rfl (by kernel_rfl) (Nat.le_of_ble_eq_true rfl) rfl ?_ | refine Hp.wp_store 6 sh rfl rfl rfl rfl (by kernel_rfl) (Nat.le_of_ble_eq_true rfl) rfl ?_); clear sh; (try clear F); go_simp; intro w1 sh; have F := sh.facts; (try simp only [Hp.Facts, Hp.CellsAt, Nat.reduceAdd, List.cons_append, List.nil_append] at F))
                | fail)
            go_roundw
            case rel => exact ⟨k + 1, g, n6, s6, c6, shs, R, s, hs, cap, n, rfl, rfl, by go_num, by omega, by omega, by omega, HH.out, sh.drop1.imp fun W h => h.2⟩
            case measure => simp [intOf]; omega
          · clear hh
            have tok_b12 : True := trivial
            go_wp2_with (first
                | ((have tok := tok_b12); clear tok tok_b12; (first | (with_reducible refine Hp.wpl_box sh ?_ ?_) | (with_reducible refine Hp.wpl_alloc Try.z_line sh ?_ ?_) | (with_reducible refine Hp.wpl_alloc Try.z_chan sh ?_ ?_)); exact rfl; clear sh; (try clear F); go_simp; intro b12 w1 sh; have F := sh.facts; (try simp only [Hp.Facts, Hp.CellsAt, Nat.reduceAdd, List.cons_append, List.nil_append] at F))
                | ((with_reducible refine Hp.wpl_box sh ?_ ?_); exact rfl; clear sh; (try clear F); go_simp; intro b w1 sh; have F := sh.facts; (try simp only [Hp.Facts, Hp.CellsAt, Nat.reduceAdd, List.cons_append, List.nil_append] at F))
                | ((with_reducible refine Hp.wpl_alloc Try.z_line sh ?_ ?_); exact rfl; clear sh; (try clear F); go_simp; intro b w1 sh; have F := sh.facts; (try simp only [Hp.Facts, Hp.CellsAt, Nat.reduceAdd, List.cons_append, List.nil_append] at F))
                | ((with_reducible refine Hp.wpl_alloc Try.z_chan sh ?_ ?_); exact rfl; clear sh; (try clear F); go_simp; intro b w1 sh; have F := sh.facts; (try simp only [Hp.Facts, Hp.CellsAt, Nat.reduceAdd, List.cons_append, List.nil_append] at F))
                | ((with_reducible refine Hp.atl_store ?_ ?_); exact rfl; (first | refine Hp.wp_store 0 sh rfl rfl rfl rfl (by kernel_rfl) (Nat.le_of_ble_eq_true rfl) rfl ?_ | refine Hp.wp_store 1 sh rfl rfl rfl rfl (by kernel_rfl) (Nat.le_of_ble_eq_true rfl) rfl ?_ | refine Hp.wp_store 2 sh rfl rfl rfl rfl (by kernel_rfl) (Nat.le_of_ble_eq_true rfl) rfl ?_ | refine Hp.wp_store 3 sh rfl rfl rfl rfl (by kernel_rfl) (Nat.le_of_ble_eq_true rfl) rfl ?_ | refine Hp.wp_store 4 sh rfl rfl rfl rfl (by kernel_rfl) (Nat.le_of_ble_eq_true rfl) rfl ?_ | refine Hp.wp_store 5 sh rfl rfl rfl rfl (by kernel_rfl) (Nat.le_of_ble_eq_true rfl) rfl ?_ | refine Hp.wp_store 6 sh rfl rfl rfl rfl (by kernel_rfl) (Nat.le_of_ble_eq_true rfl) rfl ?_); clear sh; (try clear F); go_simp; intro w1 sh; have F := sh.facts; (try simp only [Hp.Facts, Hp.CellsAt, Nat.reduceAdd, List.cons_append, List.nil_append] at F))
                | fail)
            go_roundw
            case rel => exact ⟨k + 1, g, n6, s6, c6, shs, R, s, hs, cap, n, rfl, rfl, by go_num, by omega, by omega, by omega, HH.out, sh.drop1.imp fun W h => h.2⟩
            case measure => simp [intOf]; omega
    · obtain rfl : k = N := by omega
      have hrow := HH.out.2.2.2.2.2
      have hsl := hrow.slice
      obtain ⟨s7, c7, e, h7, h8, -⟩ := hsl
      simp only [Value.slice.injEq, true_and] at e
      obtain ⟨rfl, rfl⟩ := e
      replace sh := (sh.front).freeze hrow
      clear F
      have F := sh.facts; (try simp only [Hp.Facts, Hp.CellsAt, Nat.reduceAdd, List.cons_append, List.nil_append] at F)
      have hnb : n ≤ 9223372036854775807 := by rw [HH.out.2.1]; exact HH.out.2.2.2.1.2.2.2.1
      by_cases hcg : c6 = g
      · have hgn : n6 = g := by omega
        have SQ := Lib.hid (fun W h1 => qsame s s6 hs [] n 0 cap 0 W HH.out.2.1 rfl hnb HH.out.2.2.2.1.2.2.2.2 (fun h hh => by cases hh) h1 ⟨Hp.RdV.nil _ _, fun h hh => by cases hh⟩)
        rw [show (hs.map (·.2.1) == ([] : List QueP.Hd).map (·.2.1)) = true by
          have h := HH.out.2.2.2.2.1
          rw [List.drop_eq_nil_of_le (by rw [List.length_map, ← HH.out.1]; omega)] at h
          simp only [QueP.qd] at h
          rw [h]; rfl] at SQ
        clear hrow h7
        subst hcg hgn
        go_wp2_with (first
            | ((with_reducible refine Hp.wpl_box sh ?_ ?_); exact rfl; clear sh; (try clear F); go_simp; intro b w1 sh; have F := sh.facts; (try simp only [Hp.Facts, Hp.CellsAt, Nat.reduceAdd, List.cons_append, List.nil_append] at F))
            | ((with_reducible refine Hp.wpl_alloc Try.z_line sh ?_ ?_); exact rfl; clear sh; (try clear F); go_simp; intro b w1 sh; have F := sh.facts; (try simp only [Hp.Facts, Hp.CellsAt, Nat.reduceAdd, List.cons_append, List.nil_append] at F))
            | ((with_reducible refine Hp.wpl_alloc Try.z_chan sh ?_ ?_); exact rfl; clear sh; (try clear F); go_simp; intro b w1 sh; have F := sh.facts; (try simp only [Hp.Facts, Hp.CellsAt, Nat.reduceAdd, List.cons_append, List.nil_append] at F))
            | ((with_reducible refine Hp.atl_store ?_ ?_); exact rfl; (first | refine Hp.wp_store 0 sh rfl rfl rfl rfl (by kernel_rfl) (Nat.le_of_ble_eq_true rfl) rfl ?_ | refine Hp.wp_store 1 sh rfl rfl rfl rfl (by kernel_rfl) (Nat.le_of_ble_eq_true rfl) rfl ?_ | refine Hp.wp_store 2 sh rfl rfl rfl rfl (by kernel_rfl) (Nat.le_of_ble_eq_true rfl) rfl ?_ | refine Hp.wp_store 3 sh rfl rfl rfl rfl (by kernel_rfl) (Nat.le_of_ble_eq_true rfl) rfl ?_ | refine Hp.wp_store 4 sh rfl rfl rfl rfl (by kernel_rfl) (Nat.le_of_ble_eq_true rfl) rfl ?_ | refine Hp.wp_store 5 sh rfl rfl rfl rfl (by kernel_rfl) (Nat.le_of_ble_eq_true rfl) rfl ?_ | refine Hp.wp_store 6 sh rfl rfl rfl rfl (by kernel_rfl) (Nat.le_of_ble_eq_true rfl) rfl ?_); clear sh; (try clear F); go_simp; intro w1 sh; have F := sh.facts; (try simp only [Hp.Facts, Hp.CellsAt, Nat.reduceAdd, List.cons_append, List.nil_append] at F))
            | fail)
        refine Hp.region_sh (by kernel_rfl) sh ?_; clear sh F; intro w1 sh; have F := sh.facts; (try simp only [Hp.Facts, Hp.CellsAt, Nat.reduceAdd, List.cons_append, List.nil_append] at F)
        refine Hp.branch [0] (by kernel_rfl) (by simp) ?_
        refine Hp.Each.cons ?_ ?_
        · refine Hp.op_step (o := ⟨some 103, Op.call { callee := Callee.value (Operand.func 8), args := #[], argTypes := #[] }, _, _, _, none⟩) rfl (by rfl) (fun K hK => ?_)
          go_simp
          go_fit (qlined _); rintro e w1 ⟨rfl, hb⟩; replace sh := sh.call hb; clear hb F; have F := sh.facts; go_simp
          refine hK _ _ ⟨sh.facts, sh.data⟩ ?_; clear hK K; (try simp only [Act.put, List.setIfInBounds_toArray, List.set_cons_zero, List.set_cons_succ])
          refine Hp.take (i := 1) (oi := ⟨some 104, Op.move (Operand.tmp 103), _, _, _, none⟩) (v := ?_) rfl (by kernel_rfl) (by kernel_rfl) (by kernel_rfl) (fun _ _ _ h => h) (by rfl) ⟨sh.facts, sh.data⟩ ?_ ?_
          rotate_left
          · intro w' hh
            clear hh; go_simp
            try with_reducible rfl
          (try simp only [Act.put, List.setIfInBounds_toArray, List.set_cons_zero, List.set_cons_succ])
          refine Hp.take (i := 2) (oi := ⟨some 105, Op.load 27 (Operand.tmp 5), _, _, _, some (1, true)⟩) (v := ?_) rfl (by kernel_rfl) (by kernel_rfl) (by kernel_rfl) (fun _ _ _ h => h) (by rfl) ⟨sh.facts, sh.data⟩ ?_ ?_
          rotate_left
          · intro w' hh
            have F' := hh.1; have hd := hh.2; clear hh; (try simp only [Hp.Facts, Hp.CellsAt, Nat.reduceAdd, List.cons_append, List.nil_append] at F'); skip
            go_simp
            try with_reducible rfl
          (try simp only [Act.put, List.setIfInBounds_toArray, List.set_cons_zero, List.set_cons_succ])
          refine Hp.take (i := 3) (oi := ⟨some 106, Op.move (Operand.tmp 6), _, _, _, some (1, true)⟩) (v := ?_) rfl (by kernel_rfl) (by kernel_rfl) (by kernel_rfl) (fun _ _ _ h => h) (by rfl) ⟨sh.facts, sh.data⟩ ?_ ?_
          rotate_left
          · intro w' hh
            clear hh; go_simp
            try with_reducible rfl
          (try simp only [Act.put, List.setIfInBounds_toArray, List.set_cons_zero, List.set_cons_succ])
          refine Hp.take (i := 4) (oi := ⟨some 107, Op.move (Operand.tmp 7), _, _, _, some (1, true)⟩) (v := ?_) rfl (by kernel_rfl) (by kernel_rfl) (by kernel_rfl) (fun _ _ _ h => h) (by rfl) ⟨sh.facts, sh.data⟩ ?_ ?_
          rotate_left
          · intro w' hh
            clear hh; go_simp
            try with_reducible rfl
          (try simp only [Act.put, List.setIfInBounds_toArray, List.set_cons_zero, List.set_cons_succ])
          refine Hp.take (i := 5) (oi := ⟨some 108, Op.slice 25 (Operand.tmp 106) (some (Operand.tmp 107)) none none, _, _, _, some (1, true)⟩) (v := ?_) rfl (by kernel_rfl) (by kernel_rfl) (by kernel_rfl) (fun _ _ _ h => h) (by rfl) ⟨sh.facts, sh.data⟩ ?_ ?_
          rotate_left
          · intro w' hh
            clear hh; go_simp
            try with_reducible rfl
          (try simp only [Act.put, List.setIfInBounds_toArray, List.set_cons_zero, List.set_cons_succ])
          refine Hp.take (i := 6) (oi := ⟨some 109, Op.build 27 #[(0, Operand.tmp 108)], _, _, _, some (1, true)⟩) (v := ?_) rfl (by kernel_rfl) (by kernel_rfl) (by kernel_rfl) (fun _ _ _ h => h) (by rfl) ⟨sh.facts, sh.data⟩ ?_ ?_
          rotate_left
          · intro w' hh
            clear hh; go_simp
            try with_reducible rfl
          (try simp only [Act.put, List.setIfInBounds_toArray, List.set_cons_zero, List.set_cons_succ])
          refine Hp.branch [7] (by kernel_rfl) (by simp) ?_
          refine Hp.Each.cons ?_ ?_
          · refine Hp.op_step (o := ⟨some 110, Op.call { callee := Callee.value (Operand.func 9), args := #[Operand.tmp 105, Operand.tmp 109], argTypes := #[27, 27] }, _, _, _, some (1, true)⟩) rfl (by rfl) (fun K hK => ?_)
            go_simp
            go_fit (SQ.out _ sh.data.2.1); rintro e w1 ⟨rfl, hb⟩; replace sh := sh.call hb; clear hb F; have F := sh.facts; go_simp
            refine hK _ _ ⟨sh.facts, sh.data⟩ ?_; clear hK K; (try simp only [Act.put, List.setIfInBounds_toArray, List.set_cons_zero, List.set_cons_succ])
            refine Hp.take (i := 8) (oi := ⟨some 111, Op.pick (Operand.tmp 104) (Operand.tmp 110) (Operand.const (Value.bool false)), _, _, _, none⟩) (v := ?_) rfl (by kernel_rfl) (by kernel_rfl) (by kernel_rfl) (fun _ _ _ h => h) (by rfl) ⟨sh.facts, sh.data⟩ ?_ ?_
            rotate_left
            · intro w' hh
              clear hh; go_simp
              try with_reducible rfl
            (try simp only [Act.put, List.setIfInBounds_toArray, List.set_cons_zero, List.set_cons_succ])
            refine Hp.take (i := 9) (oi := ⟨some 4, Op.assign (Operand.tmp 111), _, _, _, none⟩) (v := ?_) rfl (by kernel_rfl) (by kernel_rfl) (by kernel_rfl) (fun _ _ _ h => h) (by rfl) ⟨sh.facts, sh.data⟩ ?_ ?_
            rotate_left
            · intro w' hh
              clear hh; go_simp
              try with_reducible rfl
            (try simp only [Act.put, List.setIfInBounds_toArray, List.set_cons_zero, List.set_cons_succ])
            refine wpAnyH_done (by kernel_rfl) ?_ _
            go_wp2; go_ret; exact ⟨by simp, sh.below⟩
          exact Hp.Each.nil
        exact Hp.Each.nil
      · obtain ⟨p6, rfl⟩ : ∃ p, s6 = some p := by
          cases s6 with
          | none => have := h7 rfl; omega
          | some p => exact ⟨p, rfl⟩
        have SQ := Lib.hid (fun W h1 h2 => qsame s (some (p6.add g)) hs (shs.drop g) n (n6 - g) cap (c6 - g) W HH.out.2.1 (by rw [List.length_drop, ← HH.out.1]) hnb HH.out.2.2.2.1.2.2.2.2 (fun h hh => HH.out.2.2.1 h (List.mem_of_mem_drop hh)) h1 h2)
        rw [show (hs.map (·.2.1) == (shs.drop g).map (·.2.1)) = true by
          have h := HH.out.2.2.2.2.1
          simp only [QueP.qd] at h
          rw [h, List.map_drop]; simp] at SQ
        have HQ6 := Lib.hid (fun W (h : Hp.RdV W (some p6) (shs.map QueP.hdr) ∧ QueP.OrdD (s, hs, cap) (rs, RL, rcap) shs W) => (show QueP.QOk W (some (p6.add g), shs.drop g, c6 - g) from ⟨by
          have h1 := h.1.cut (l := g) (m := c6) (size := 1) (fun e => absurd e hcg)
          unfold Hp.cut at h1
          rw [if_neg hcg, Nat.mul_one, ← List.map_drop] at h1
          exact h1, fun x hx => h.2.2.2 x (List.mem_of_mem_drop hx)⟩))
        have hg0 : (0 : Int) ≤ (g : Int) := by omega
        have hg1 : (g : Int) ≤ (n6 : Int) := by omega
        clear hrow h7
        go_wp2_with (first
            | ((with_reducible refine Hp.wpl_box sh ?_ ?_); exact rfl; clear sh; (try clear F); go_simp; intro b w1 sh; have F := sh.facts; (try simp only [Hp.Facts, Hp.CellsAt, Nat.reduceAdd, List.cons_append, List.nil_append] at F))
            | ((with_reducible refine Hp.wpl_alloc Try.z_line sh ?_ ?_); exact rfl; clear sh; (try clear F); go_simp; intro b w1 sh; have F := sh.facts; (try simp only [Hp.Facts, Hp.CellsAt, Nat.reduceAdd, List.cons_append, List.nil_append] at F))
            | ((with_reducible refine Hp.wpl_alloc Try.z_chan sh ?_ ?_); exact rfl; clear sh; (try clear F); go_simp; intro b w1 sh; have F := sh.facts; (try simp only [Hp.Facts, Hp.CellsAt, Nat.reduceAdd, List.cons_append, List.nil_append] at F))
            | ((with_reducible refine Hp.atl_store ?_ ?_); exact rfl; (first | refine Hp.wp_store 0 sh rfl rfl rfl rfl (by kernel_rfl) (Nat.le_of_ble_eq_true rfl) rfl ?_ | refine Hp.wp_store 1 sh rfl rfl rfl rfl (by kernel_rfl) (Nat.le_of_ble_eq_true rfl) rfl ?_ | refine Hp.wp_store 2 sh rfl rfl rfl rfl (by kernel_rfl) (Nat.le_of_ble_eq_true rfl) rfl ?_ | refine Hp.wp_store 3 sh rfl rfl rfl rfl (by kernel_rfl) (Nat.le_of_ble_eq_true rfl) rfl ?_ | refine Hp.wp_store 4 sh rfl rfl rfl rfl (by kernel_rfl) (Nat.le_of_ble_eq_true rfl) rfl ?_ | refine Hp.wp_store 5 sh rfl rfl rfl rfl (by kernel_rfl) (Nat.le_of_ble_eq_true rfl) rfl ?_ | refine Hp.wp_store 6 sh rfl rfl rfl rfl (by kernel_rfl) (Nat.le_of_ble_eq_true rfl) rfl ?_); clear sh; (try clear F); go_simp; intro w1 sh; have F := sh.facts; (try simp only [Hp.Facts, Hp.CellsAt, Nat.reduceAdd, List.cons_append, List.nil_append] at F))
            | fail)
        refine Hp.region_sh (by kernel_rfl) sh ?_; clear sh F; intro w1 sh; have F := sh.facts; (try simp only [Hp.Facts, Hp.CellsAt, Nat.reduceAdd, List.cons_append, List.nil_append] at F)
        refine Hp.branch [0] (by kernel_rfl) (by simp) ?_
        refine Hp.Each.cons ?_ ?_
        · refine Hp.op_step (o := ⟨some 103, Op.call { callee := Callee.value (Operand.func 8), args := #[], argTypes := #[] }, _, _, _, none⟩) rfl (by rfl) (fun K hK => ?_)
          go_simp
          go_fit (qlined _); rintro e w1 ⟨rfl, hb⟩; replace sh := sh.call hb; clear hb F; have F := sh.facts; go_simp
          refine hK _ _ ⟨sh.facts, sh.data⟩ ?_; clear hK K; (try simp only [Act.put, List.setIfInBounds_toArray, List.set_cons_zero, List.set_cons_succ])
          refine Hp.take (i := 1) (oi := ⟨some 104, Op.move (Operand.tmp 103), _, _, _, none⟩) (v := ?_) rfl (by kernel_rfl) (by kernel_rfl) (by kernel_rfl) (fun _ _ _ h => h) (by rfl) ⟨sh.facts, sh.data⟩ ?_ ?_
          rotate_left
          · intro w' hh
            clear hh; go_simp
            try with_reducible rfl
          (try simp only [Act.put, List.setIfInBounds_toArray, List.set_cons_zero, List.set_cons_succ])
          refine Hp.take (i := 2) (oi := ⟨some 105, Op.load 27 (Operand.tmp 5), _, _, _, some (1, true)⟩) (v := ?_) rfl (by kernel_rfl) (by kernel_rfl) (by kernel_rfl) (fun _ _ _ h => h) (by rfl) ⟨sh.facts, sh.data⟩ ?_ ?_
          rotate_left
          · intro w' hh
            have F' := hh.1; have hd := hh.2; clear hh; (try simp only [Hp.Facts, Hp.CellsAt, Nat.reduceAdd, List.cons_append, List.nil_append] at F'); skip
            go_simp
            try with_reducible rfl
          (try simp only [Act.put, List.setIfInBounds_toArray, List.set_cons_zero, List.set_cons_succ])
          refine Hp.take (i := 3) (oi := ⟨some 106, Op.move (Operand.tmp 6), _, _, _, some (1, true)⟩) (v := ?_) rfl (by kernel_rfl) (by kernel_rfl) (by kernel_rfl) (fun _ _ _ h => h) (by rfl) ⟨sh.facts, sh.data⟩ ?_ ?_
          rotate_left
          · intro w' hh
            clear hh; go_simp
            try with_reducible rfl
          (try simp only [Act.put, List.setIfInBounds_toArray, List.set_cons_zero, List.set_cons_succ])
          refine Hp.take (i := 4) (oi := ⟨some 107, Op.move (Operand.tmp 7), _, _, _, some (1, true)⟩) (v := ?_) rfl (by kernel_rfl) (by kernel_rfl) (by kernel_rfl) (fun _ _ _ h => h) (by rfl) ⟨sh.facts, sh.data⟩ ?_ ?_
          rotate_left
          · intro w' hh
            clear hh; go_simp
            try with_reducible rfl
          (try simp only [Act.put, List.setIfInBounds_toArray, List.set_cons_zero, List.set_cons_succ])
          refine Hp.take (i := 5) (oi := ⟨some 108, Op.slice 25 (Operand.tmp 106) (some (Operand.tmp 107)) none none, _, _, _, some (1, true)⟩) (v := ?_) rfl (by kernel_rfl) (by kernel_rfl) (by kernel_rfl) (fun _ _ _ h => h) (by rfl) ⟨sh.facts, sh.data⟩ ?_ ?_
          rotate_left
          · intro w' hh
            clear hh; go_simp
            try with_reducible rfl
          (try simp only [Act.put, List.setIfInBounds_toArray, List.set_cons_zero, List.set_cons_succ])
          refine Hp.take (i := 6) (oi := ⟨some 109, Op.build 27 #[(0, Operand.tmp 108)], _, _, _, some (1, true)⟩) (v := ?_) rfl (by kernel_rfl) (by kernel_rfl) (by kernel_rfl) (fun _ _ _ h => h) (by rfl) ⟨sh.facts, sh.data⟩ ?_ ?_
          rotate_left
          · intro w' hh
            clear hh; go_simp
            try with_reducible rfl
          (try simp only [Act.put, List.setIfInBounds_toArray, List.set_cons_zero, List.set_cons_succ])
          refine Hp.branch [7] (by kernel_rfl) (by simp) ?_
          refine Hp.Each.cons ?_ ?_
          · refine Hp.op_step (o := ⟨some 110, Op.call { callee := Callee.value (Operand.func 9), args := #[Operand.tmp 105, Operand.tmp 109], argTypes := #[27, 27] }, _, _, _, some (1, true)⟩) rfl (by rfl) (fun K hK => ?_)
            go_simp
            go_fit (SQ.out _ sh.data.2.1 (HQ6.out _ sh.data)); rintro e w1 ⟨rfl, hb⟩; replace sh := sh.call hb; clear hb F; have F := sh.facts; go_simp
            refine hK _ _ ⟨sh.facts, sh.data⟩ ?_; clear hK K; (try simp only [Act.put, List.setIfInBounds_toArray, List.set_cons_zero, List.set_cons_succ])
            refine Hp.take (i := 8) (oi := ⟨some 111, Op.pick (Operand.tmp 104) (Operand.tmp 110) (Operand.const (Value.bool false)), _, _, _, none⟩) (v := ?_) rfl (by kernel_rfl) (by kernel_rfl) (by kernel_rfl) (fun _ _ _ h => h) (by rfl) ⟨sh.facts, sh.data⟩ ?_ ?_
            rotate_left
            · intro w' hh
              clear hh; go_simp
              try with_reducible rfl
            (try simp only [Act.put, List.setIfInBounds_toArray, List.set_cons_zero, List.set_cons_succ])
            refine Hp.take (i := 9) (oi := ⟨some 4, Op.assign (Operand.tmp 111), _, _, _, none⟩) (v := ?_) rfl (by kernel_rfl) (by kernel_rfl) (by kernel_rfl) (fun _ _ _ h => h) (by rfl) ⟨sh.facts, sh.data⟩ ?_ ?_
            rotate_left
            · intro w' hh
              clear hh; go_simp
              try with_reducible rfl
            (try simp only [Act.put, List.setIfInBounds_toArray, List.set_cons_zero, List.set_cons_succ])
            refine wpAnyH_done (by kernel_rfl) ?_ _
            go_wp2; go_ret; exact ⟨by simp, sh.below⟩
          exact Hp.Each.nil
        exact Hp.Each.nil

end Go.Proofs.Ytddfonekfopchaa
