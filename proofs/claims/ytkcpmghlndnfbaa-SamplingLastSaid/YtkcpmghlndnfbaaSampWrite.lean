/-
  The walks of package sampling: Fresh and Write.
-/
import Derived.Test.YtkcpmghlndnfbaaSamp
import Derived.Laws.ResultCell
namespace Go.Proofs.Ytkcpmghlndnfbaa
open Go.RowKit
set_option linter.unusedVariables false
set_option linter.unusedSimpArgs false

set_option maxHeartbeats 1000000 in
set_option maxRecDepth 100000 in
theorem sampFresh_any (kd fr to size dep : Int) (f : Bool) (tm : Int) (s : Option Addr) (zs : List Int) (n cap : Nat) (tk most : Int) (w : World) (hs : -9223372036854775808 ≤ size ∧ size ≤ 9223372036854775807) (hn : n ≤ 1099511627776) (hz : n = zs.length) (hr : Rd w .u32 s zs)
    (htm : -9223372036854775808 ≤ tm ∧ tm ≤ 9223372036854775807) (htk : -9223372036854775808 ≤ tk ∧ tk ≤ 9223372036854775807) (hmost : -9223372036854775808 ≤ most ∧ most ≤ 9223372036854775807) :
    Calls Try.prog 10 #[.agg #[.int .i64 kd, .int .i64 fr, .int .i64 to, .int .i64 size, .int .i64 dep], .agg #[.bool f, .int .i64 tm, .slice s n cap], .int .i64 tk, .int .i64 most] w
      fun e w' => e = .returned (.bool (decide (SampP.rcode size f tm n tk = 0) && decide (tk - tm ≤ most))) ∧ Below w.heap.size w w' := by
  have HD := Lib.hid (fun W hr => sampRead_any kd fr to size dep f tm s zs n cap tk W hs hn hz hr htm htk)
  have HR := Lib.hid hr
  clear hr hz
  generalize hc : SampP.rcode size f tm n tk = c at *
  clear hc
  generalize tk - tm = a at *
  by_cases h0 : c = 0
  · subst h0
    go_enter Try.func10, Try.ntmps10
    go_wp2_with fail
    refine (HD.out _ (HR.out.below (below_a2 w _ _))).mono ?_
    rintro e w1 ⟨⟨h, _⟩ | ⟨_, g, rfl, hg, hr1⟩, hb1⟩
    · exact absurd rfl h
    go_wp2
    all_goals go_ret
    all_goals exact ⟨ret_bool (by simp_all), below_step (below_a2 w _ _) hb1⟩
  · go_enter Try.func10, Try.ntmps10
    go_wp2_with fail
    refine (HD.out _ (HR.out.below (below_a2 w _ _))).mono ?_
    rintro e w1 ⟨⟨_, rfl⟩ | ⟨h, _⟩, hb1⟩
    · go_wp2
      all_goals go_ret
      all_goals exact ⟨ret_bool (by simp_all), below_step (below_a2 w _ _) hb1⟩
    · exact absurd h h0

set_option maxHeartbeats 1000000 in
set_option maxRecDepth 100000 in
theorem sampWrite_any (kd fr to size dep : Int) (f : Bool) (tm : Int) (s : Option Addr) (n cap : Nat) (tk : Int) (r : Option Addr) (zs : List Int) (m cap2 : Nat) (w : World) (hs : -9223372036854775808 ≤ size ∧ size ≤ 9223372036854775807) (hn : n ≤ 1099511627776)
    (hm : m ≤ 1099511627776) (hz : m = zs.length) (hr : Rd w .u32 r zs)
    (htm : -9223372036854775808 ≤ tm ∧ tm ≤ 9223372036854775807) (htk : -9223372036854775808 ≤ tk ∧ tk ≤ 9223372036854775807) :
    Calls Try.prog 5 #[.agg #[.int .i64 kd, .int .i64 fr, .int .i64 to, .int .i64 size, .int .i64 dep], .agg #[.bool f, .int .i64 tm, .slice s n cap], .int .i64 tk, .slice r m cap2] w
      fun e w' => ((SampP.wcode size f tm n tk m ≠ 0 ∧ e = .returned (.tuple #[.agg #[.bool false, .int .i64 0, .slice none 0 0], .int .i64 (SampP.wcode size f tm n tk m)])) ∨
        (SampP.wcode size f tm n tk m = 0 ∧ ∃ g, e = .returned (.tuple #[.agg #[.bool true, .int .i64 tk, .slice (some ⟨g, 0, none⟩) m m], .int .i64 0]) ∧ w.heap.size ≤ g ∧ Rd w' .u32 (some ⟨g, 0, none⟩) zs)) ∧ Below w.heap.size w w' := by
  have HI := Lib.hid (fun W => sampIs_any kd fr to size dep f tm s n cap W hs hn)
  have HZ := Lib.hid hz
  have HR := Lib.hid hr
  clear hz hr
  have HT := Lib.hid (fun W => isTick_any tk W)
  have HW := Lib.hid (fun (w1 : World) (hb1 : Below (((w.alloc (.cells #[.int .i64 kd, .int .i64 fr, .int .i64 to, .int .i64 size, .int .i64 dep] 23)).alloc (.cells #[.bool f, .int .i64 tm, .slice s n cap] 27)).alloc (.cells #[.bool false, .int .i64 0, .slice none 0 0] 27)).heap.size (((w.alloc (.cells #[.int .i64 kd, .int .i64 fr, .int .i64 to, .int .i64 size, .int .i64 dep] 23)).alloc (.cells #[.bool f, .int .i64 tm, .slice s n cap] 27)).alloc (.cells #[.bool false, .int .i64 0, .slice none 0 0] 27)) w1) => below_step (below_a3 w _ _ _) hb1)
  cases hi : SampP.is size f tm n with
  | false =>
    rw [hi] at HI
    have hc : SampP.wcode size f tm n tk m = 1 := by simp [SampP.wcode, hi]
    rw [hc]
    go_enter Try.func5, Try.ntmps5
    go_wp2_with fail
    refine (HI.out _).mono ?_
    rintro e w1 ⟨rfl, hb1⟩
    have k2a := kept hb1 (at_a3 w _ _ _ _ _)
    have c20 := box k2a 0 rfl
    have c21 := box k2a 1 rfl
    have c22 := box k2a 2 rfl
    have f20 := box_free k2a 0
    have f21 := box_free k2a 1
    have f22 := box_free k2a 2
    have K2a := Lib.hid k2a
    clear k2a
    go_wp2
    refine bodyPost_ret (v := .tuple #[.agg #[.bool false, .int .i64 0, .slice none 0 0], .int .i64 1]) ?_ rfl ⟨.inl ⟨by decide, rfl⟩, set3_below (HW.out _ hb1) (by simp; omega) (by simp; omega) (by simp; omega) _ _ _⟩
    rw [results_cell_tmp rfl]
    simp [asAddr, Result.andThen]
    go_simp
  | true =>
    rw [hi] at HI
    by_cases ht : SampP.tick tk = false ∨ (f = true ∧ tk < tm)
    · have hc : SampP.wcode size f tm n tk m = 6 := by simp [SampP.wcode, hi, ht]
      rw [hc]
      cases ht2 : SampP.tick tk with
      | false =>
        rw [ht2] at HT
        go_enter Try.func5, Try.ntmps5
        go_wp2_with fail
        refine (HI.out _).mono ?_
        rintro e w1 ⟨rfl, hb1⟩
        have k2a := kept hb1 (at_a3 w _ _ _ _ _)
        have c20 := box k2a 0 rfl
        have c21 := box k2a 1 rfl
        have c22 := box k2a 2 rfl
        have f20 := box_free k2a 0
        have f21 := box_free k2a 1
        have f22 := box_free k2a 2
        have K2a := Lib.hid k2a
        clear k2a
        go_wp2_with fail
        refine (HT.out _).mono ?_
        rintro e w' ⟨rfl, rfl⟩
        go_wp2
        refine bodyPost_ret (v := .tuple #[.agg #[.bool false, .int .i64 0, .slice none 0 0], .int .i64 6]) ?_ rfl ⟨.inl ⟨by decide, rfl⟩, set3_below (HW.out _ hb1) (by simp; omega) (by simp; omega) (by simp; omega) _ _ _⟩
        rw [results_cell_tmp rfl]
        simp [asAddr, Result.andThen]
        go_simp
      | true =>
        obtain ⟨rfl, hlt⟩ : f = true ∧ tk < tm := by simpa [ht2] using ht
        rw [ht2] at HT
        go_enter Try.func5, Try.ntmps5
        go_wp2_with fail
        refine (HI.out _).mono ?_
        rintro e w1 ⟨rfl, hb1⟩
        have k1a := kept hb1 (i := w.heap.size + 1) (kept_alloc (at_a2 w _ _ _ _))
        have c10 := box k1a 0 rfl
        have c11 := box k1a 1 rfl
        have K1a := Lib.hid k1a
        clear k1a
        have k2a := kept hb1 (at_a3 w _ _ _ _ _)
        have c20 := box k2a 0 rfl
        have c21 := box k2a 1 rfl
        have c22 := box k2a 2 rfl
        have f20 := box_free k2a 0
        have f21 := box_free k2a 1
        have f22 := box_free k2a 2
        have K2a := Lib.hid k2a
        clear k2a
        go_wp2_with fail
        refine (HT.out _).mono ?_
        rintro e w' ⟨rfl, rfl⟩
        go_wp2
        refine bodyPost_ret (v := .tuple #[.agg #[.bool false, .int .i64 0, .slice none 0 0], .int .i64 6]) ?_ rfl ⟨.inl ⟨by decide, rfl⟩, set3_below (HW.out _ hb1) (by simp; omega) (by simp; omega) (by simp; omega) _ _ _⟩
        rw [results_cell_tmp rfl]
        simp [asAddr, Result.andThen]
        go_simp
    · have ht2 : SampP.tick tk = true := by cases h : SampP.tick tk <;> simp_all
      have hge : f = true → tm ≤ tk := fun h => by simp [ht2, h] at ht; exact ht
      rw [ht2] at HT
      have HF := Lib.hid (fun W => fitting_any kd fr to size dep r m cap2 W hs hm)
      cases hf : SampP.fit size m with
      | false =>
        have hc : SampP.wcode size f tm n tk m = 2 := by simp [SampP.wcode, hi, hf, ht]
        rw [hc]
        rw [hf] at HF
        clear ht
        cases f with
        | false =>
          go_enter Try.func5, Try.ntmps5
          go_wp2_with fail
          refine (HI.out _).mono ?_
          rintro e w1 ⟨rfl, hb1⟩
          have k0a := kept hb1 (i := w.heap.size) (kept_alloc (kept_alloc (at_a1 w _ _ _)))
          have c00 := box k0a 0 rfl
          have c01 := box k0a 1 rfl
          have c02 := box k0a 2 rfl
          have c03 := box k0a 3 rfl
          have c04 := box k0a 4 rfl
          have K0a := Lib.hid k0a
          clear k0a
          have k1a := kept hb1 (i := w.heap.size + 1) (kept_alloc (at_a2 w _ _ _ _))
          have c10 := box k1a 0 rfl
          have c11 := box k1a 1 rfl
          have K1a := Lib.hid k1a
          clear k1a
          have k2a := kept hb1 (at_a3 w _ _ _ _ _)
          have K2a := Lib.hid k2a
          clear k2a
          go_wp2_with fail
          refine (HT.out _).mono ?_
          rintro e w' ⟨rfl, rfl⟩
          go_wp2_with fail
          refine (HF.out _).mono ?_
          rintro e w2 ⟨rfl, hb2⟩
          have k2b := kept hb2 K2a.out
          have c20 := box k2b 0 rfl
          have c21 := box k2b 1 rfl
          have c22 := box k2b 2 rfl
          have f20 := box_free k2b 0
          have f21 := box_free k2b 1
          have f22 := box_free k2b 2
          have K2b := Lib.hid k2b
          clear k2b
          go_wp2
          refine bodyPost_ret (v := .tuple #[.agg #[.bool false, .int .i64 0, .slice none 0 0], .int .i64 2]) ?_ rfl ⟨.inl ⟨by decide, rfl⟩, set3_below (below_step (HW.out _ hb1) hb2) (by simp; omega) (by simp; omega) (by simp; omega) _ _ _⟩
          rw [results_cell_tmp rfl]
          simp [asAddr, Result.andThen]
          go_simp
        | true =>
          have hge1 := hge rfl
          go_enter Try.func5, Try.ntmps5
          go_wp2_with fail
          refine (HI.out _).mono ?_
          rintro e w1 ⟨rfl, hb1⟩
          have k0a := kept hb1 (i := w.heap.size) (kept_alloc (kept_alloc (at_a1 w _ _ _)))
          have c00 := box k0a 0 rfl
          have c01 := box k0a 1 rfl
          have c02 := box k0a 2 rfl
          have c03 := box k0a 3 rfl
          have c04 := box k0a 4 rfl
          have K0a := Lib.hid k0a
          clear k0a
          have k1a := kept hb1 (i := w.heap.size + 1) (kept_alloc (at_a2 w _ _ _ _))
          have c10 := box k1a 0 rfl
          have c11 := box k1a 1 rfl
          have K1a := Lib.hid k1a
          clear k1a
          have k2a := kept hb1 (at_a3 w _ _ _ _ _)
          have K2a := Lib.hid k2a
          clear k2a
          go_wp2_with fail
          refine (HT.out _).mono ?_
          rintro e w' ⟨rfl, rfl⟩
          go_wp2_with fail
          refine (HF.out _).mono ?_
          rintro e w2 ⟨rfl, hb2⟩
          have k2b := kept hb2 K2a.out
          have c20 := box k2b 0 rfl
          have c21 := box k2b 1 rfl
          have c22 := box k2b 2 rfl
          have f20 := box_free k2b 0
          have f21 := box_free k2b 1
          have f22 := box_free k2b 2
          have K2b := Lib.hid k2b
          clear k2b
          go_wp2
          refine bodyPost_ret (v := .tuple #[.agg #[.bool false, .int .i64 0, .slice none 0 0], .int .i64 2]) ?_ rfl ⟨.inl ⟨by decide, rfl⟩, set3_below (below_step (HW.out _ hb1) hb2) (by simp; omega) (by simp; omega) (by simp; omega) _ _ _⟩
          rw [results_cell_tmp rfl]
          simp [asAddr, Result.andThen]
          go_simp
      | true =>
        have hc : SampP.wcode size f tm n tk m = 0 := by simp [SampP.wcode, hi, hf, ht]
        rw [hc]
        rw [hf] at HF
        clear ht
        have HC := Lib.hid (fun W h => copied_any r zs m cap2 W hm HZ.out h)
        cases f with
        | false =>
          go_enter Try.func5, Try.ntmps5
          go_wp2_with fail
          refine (HI.out _).mono ?_
          rintro e w1 ⟨rfl, hb1⟩
          have k0a := kept hb1 (i := w.heap.size) (kept_alloc (kept_alloc (at_a1 w _ _ _)))
          have c00 := box k0a 0 rfl
          have c01 := box k0a 1 rfl
          have c02 := box k0a 2 rfl
          have c03 := box k0a 3 rfl
          have c04 := box k0a 4 rfl
          have K0a := Lib.hid k0a
          clear k0a
          have k1a := kept hb1 (i := w.heap.size + 1) (kept_alloc (at_a2 w _ _ _ _))
          have c10 := box k1a 0 rfl
          have c11 := box k1a 1 rfl
          have K1a := Lib.hid k1a
          clear k1a
          have k2a := kept hb1 (at_a3 w _ _ _ _ _)
          have K2a := Lib.hid k2a
          clear k2a
          go_wp2_with fail
          refine (HT.out _).mono ?_
          rintro e w' ⟨rfl, rfl⟩
          go_wp2_with fail
          refine (HF.out _).mono ?_
          rintro e w2 ⟨rfl, hb2⟩
          have HR2 := Lib.hid (HR.out.below (below_step (HW.out _ hb1) hb2))
          go_wp2_with fail
          refine (HC.out _ HR2.out).mono ?_
          rintro e w3 ⟨g, rfl, hg, hr3, hb3⟩
          have hlt2 := box_lt K2a.out
          have hz2 := hb2.size
          have k2b := kept hb3 (kept hb2 K2a.out)
          have c20 := box k2b 0 rfl
          have c21 := box k2b 1 rfl
          have c22 := box k2b 2 rfl
          have f20 := box_free k2b 0
          have f21 := box_free k2b 1
          have f22 := box_free k2b 2
          have K2b := Lib.hid k2b
          clear k2b
          go_wp2
          refine bodyPost_ret (v := .tuple #[.agg #[.bool true, .int .i64 tk, .slice (some ⟨g, 0, none⟩) m m], .int .i64 0]) ?_ rfl ⟨.inr ⟨by trivial, g, rfl, Nat.le_trans (Nat.le_trans (HW.out _ hb1).size hz2) hg, ?_⟩, set3_below (below_step (below_step (HW.out _ hb1) hb2) hb3) (by simp; omega) (by simp; omega) (by simp; omega) _ _ _⟩
          · rw [results_cell_tmp rfl]
            simp [asAddr, Result.andThen]
            go_simp
          · exact ((hr3.set (by simp; omega) _).set (by simp; omega) _).set (by simp; omega) _
        | true =>
          have hge1 := hge rfl
          go_enter Try.func5, Try.ntmps5
          go_wp2_with fail
          refine (HI.out _).mono ?_
          rintro e w1 ⟨rfl, hb1⟩
          have k0a := kept hb1 (i := w.heap.size) (kept_alloc (kept_alloc (at_a1 w _ _ _)))
          have c00 := box k0a 0 rfl
          have c01 := box k0a 1 rfl
          have c02 := box k0a 2 rfl
          have c03 := box k0a 3 rfl
          have c04 := box k0a 4 rfl
          have K0a := Lib.hid k0a
          clear k0a
          have k1a := kept hb1 (i := w.heap.size + 1) (kept_alloc (at_a2 w _ _ _ _))
          have c10 := box k1a 0 rfl
          have c11 := box k1a 1 rfl
          have K1a := Lib.hid k1a
          clear k1a
          have k2a := kept hb1 (at_a3 w _ _ _ _ _)
          have K2a := Lib.hid k2a
          clear k2a
          go_wp2_with fail
          refine (HT.out _).mono ?_
          rintro e w' ⟨rfl, rfl⟩
          go_wp2_with fail
          refine (HF.out _).mono ?_
          rintro e w2 ⟨rfl, hb2⟩
          have HR2 := Lib.hid (HR.out.below (below_step (HW.out _ hb1) hb2))
          go_wp2_with fail
          refine (HC.out _ HR2.out).mono ?_
          rintro e w3 ⟨g, rfl, hg, hr3, hb3⟩
          have hlt2 := box_lt K2a.out
          have hz2 := hb2.size
          have k2b := kept hb3 (kept hb2 K2a.out)
          have c20 := box k2b 0 rfl
          have c21 := box k2b 1 rfl
          have c22 := box k2b 2 rfl
          have f20 := box_free k2b 0
          have f21 := box_free k2b 1
          have f22 := box_free k2b 2
          have K2b := Lib.hid k2b
          clear k2b
          go_wp2
          refine bodyPost_ret (v := .tuple #[.agg #[.bool true, .int .i64 tk, .slice (some ⟨g, 0, none⟩) m m], .int .i64 0]) ?_ rfl ⟨.inr ⟨by trivial, g, rfl, Nat.le_trans (Nat.le_trans (HW.out _ hb1).size hz2) hg, ?_⟩, set3_below (below_step (below_step (HW.out _ hb1) hb2) hb3) (by simp; omega) (by simp; omega) (by simp; omega) _ _ _⟩
          · rw [results_cell_tmp rfl]
            simp [asAddr, Result.andThen]
            go_simp
          · exact ((hr3.set (by simp; omega) _).set (by simp; omega) _).set (by simp; omega) _

end Go.Proofs.Ytkcpmghlndnfbaa
