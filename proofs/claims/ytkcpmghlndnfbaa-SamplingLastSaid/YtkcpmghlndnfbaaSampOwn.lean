/-
  The walk of SamplingOwn.
-/
import Derived.Test.YtkcpmghlndnfbaaSampLaws
import Derived.Laws.AppendOwnNone
namespace Go.Proofs.Ytkcpmghlndnfbaa
open Go.RowKit
set_option linter.unusedVariables false
set_option linter.unusedSimpArgs false

/-- 'was = append(nil, l...)', of numbers. -/
theorem wpList_append_fresh {P : Program} {W : World} {ops : Array Oper} {rest : List Oper} {o : Oper} {a : Act} {Q : Exit → Act → World → Prop} (hgd : o.guard = none) (s x : Operand) (T : TypeId)
    (ho : o.op = .call { callee := .builtin .append, args := #[s, x], argTypes := #[T, T] }) (k : IntKind) (U : TypeId) (bytes : Nat)
    (hinfo : (P.info? U).map (fun i => (i.zero, i.size, i.bytes)) = some (some (.int k 0), 1, bytes)) (hT : P.underlying T = some (.slice U)) (hby : bytes ≤ 8)
    (hs : a.eval s = .slice none 0 0) (xp : Option Addr) (m c : Nat) (ws : List Int) (hx : a.eval x = .slice xp m c) (hm : m = ws.length) (hrd : Rd W k xp ws) (hnone : xp = none → m = 0 ∧ c = 0) (hbound : m ≤ 1099511627776)
    (h : ∀ s' c' w', Rd w' k s' ws → Below W.heap.size W w' → wpList P ops Q rest (a.put o.dst (.slice s' m c')) w') :
    wpList P ops Q (o :: rest) a W := by
  obtain ⟨i0, hi, hz0, hz1, hz2⟩ := info_parts hinfo
  cases xp with
  | none =>
    obtain ⟨rfl, rfl⟩ := hnone rfl
    obtain rfl : ws = [] := List.eq_nil_of_length_eq_zero hm.symm
    exact wpList_append_own_none hgd s x T ho W.heap.size U i0 1 hT hi _ 0 [] hs (World.ownsRow_nil _ _ _ _) hx (h none 0 W (Rd.nil _ _ _) (Below.refl _ _))
  | some ad =>
    refine wpList_append_own _ hgd s x T ho W.heap.size U i0 (.int k 0) 1 bytes hT hi hz0 hz1 hz2 rfl (by decide) _ 0 [] hs (World.ownsRow_nil _ _ _ _) ad m c (icells k ws) hx (by rw [icells_length, hm, Nat.mul_one]) ?_
      (by intro v hv; obtain ⟨z, _, rfl⟩ := List.mem_map.1 hv; rfl) (by unfold maxLen; omega) ?_ (Nat.le_refl _) ?_
    · intro j u hu
      simp only [icells, List.getElem?_map, Option.map_eq_some_iff] at hu
      obtain ⟨z, hz, rfl⟩ := hu
      obtain ⟨q, hq, hc⟩ := hrd (by have := (List.getElem?_eq_some_iff.1 hz).1; omega)
      obtain rfl : ad = q := by simpa using hq
      exact hc j z hz
    · rw [Nat.zero_add]
      have h8 : m * bytes ≤ 1099511627776 * 8 := Nat.mul_le_mul hbound hby
      exact Nat.le_trans h8 (by decide)
    · intro v' w' hown hgrow _
      rw [List.nil_append, Nat.zero_add] at hown
      obtain ⟨s', c', rfl, hr⟩ := Rd.ofOwns hown
      rw [← hm]
      exact h s' c' w' hr ((Below.refl _ W).grown hgrow (Nat.le_refl _) (fun j hj => by cases hj))

theorem sampRead_gen (kd fr to size dep : Int) (f : Bool) (tm : Int) (s : Option Addr) (zs : List Int) (n cap : Nat) (tk : Int) (w : World) (hs : -9223372036854775808 ≤ size ∧ size ≤ 9223372036854775807) (hn : n ≤ 1099511627776) (hz : n = zs.length) (hr : Rd w .u32 s zs)
    (htm : -9223372036854775808 ≤ tm ∧ tm ≤ 9223372036854775807) (htk : -9223372036854775808 ≤ tk ∧ tk ≤ 9223372036854775807) :
    Calls Try.prog 7 #[.agg #[.int .i64 kd, .int .i64 fr, .int .i64 to, .int .i64 size, .int .i64 dep], .agg #[.bool f, .int .i64 tm, .slice s n cap], .int .i64 tk] w
      fun e w' => ∃ lp ln lc age ls, e = .returned (.tuple #[.slice lp ln lc, .int .i64 age, .int .i64 (SampP.rcode size f tm n tk)]) ∧ ln = ls.length ∧ ln ≤ 1099511627776 ∧ (lp = none → ln = 0 ∧ lc = 0) ∧ Rd w' .u32 lp ls ∧ Below w.heap.size w w' := by
  refine (sampRead_any kd fr to size dep f tm s zs n cap tk w hs hn hz hr htm htk).mono ?_
  rintro e w' ⟨⟨h, he⟩ | ⟨h0, g, he, hg, hr'⟩, hb⟩
  · exact ⟨none, 0, 0, 0, [], he, rfl, by decide, fun _ => ⟨rfl, rfl⟩, Rd.nil _ _ _, hb⟩
  · rw [h0]; exact ⟨_, _, _, _, zs, he, hz, hn, fun h => (by cases h), hr', hb⟩

theorem sampWrite_gen (kd fr to size dep : Int) (f : Bool) (tm : Int) (s : Option Addr) (n cap : Nat) (tk : Int) (r : Option Addr) (zs : List Int) (m cap2 : Nat) (w : World) (hs : -9223372036854775808 ≤ size ∧ size ≤ 9223372036854775807) (hn : n ≤ 1099511627776)
    (hm : m ≤ 1099511627776) (hz : m = zs.length) (hr : Rd w .u32 r zs)
    (htm : -9223372036854775808 ≤ tm ∧ tm ≤ 9223372036854775807) (htk : -9223372036854775808 ≤ tk ∧ tk ≤ 9223372036854775807) :
    Calls Try.prog 5 #[.agg #[.int .i64 kd, .int .i64 fr, .int .i64 to, .int .i64 size, .int .i64 dep], .agg #[.bool f, .int .i64 tm, .slice s n cap], .int .i64 tk, .slice r m cap2] w
      fun e w' => ∃ f' tm' s' n' c' c, e = .returned (.tuple #[.agg #[.bool f', .int .i64 tm', .slice s' n' c'], .int .i64 c]) ∧ Below w.heap.size w w' := by
  refine (sampWrite_any kd fr to size dep f tm s n cap tk r zs m cap2 w hs hn hm hz hr htm htk).mono ?_
  rintro e w' ⟨⟨h, he⟩ | ⟨h0, g, he, hg, hr'⟩, hb⟩
  · exact ⟨_, _, _, _, _, _, he, hb⟩
  · exact ⟨_, _, _, _, _, _, he, hb⟩

theorem SampP.wcode_zero {size tm tk : Int} {f : Bool} {n m : Nat} (h : SampP.wcode size f tm n tk m = 0) : SampP.tick tk = true ∧ SampP.fit size m = true ∧ 1 ≤ size ∧ size ≤ 8 ∧ (f = true → tm ≤ tk) := by
  unfold SampP.wcode at h
  split at h
  · simp at h
  · rename_i h1
    split at h
    · simp at h
    · rename_i h2
      split at h
      · simp at h
      · rename_i h3
        have h1' : SampP.is size f tm n = true := by simpa using h1
        simp only [SampP.is, Bool.and_eq_true, decide_eq_true_eq] at h1'
        refine ⟨by cases ht : SampP.tick tk <;> simp_all, by simpa using h3, h1'.1.1, h1'.1.2, fun hf => ?_⟩
        by_cases hlt : tk < tm
        · exact absurd (.inr ⟨hf, hlt⟩) h2
        · omega
theorem SampP.is_of {size tk : Int} {m : Nat} (h : SampP.tick tk = true) (h1 : SampP.fit size m = true) (h2 : 1 ≤ size) (h3 : size ≤ 8) : SampP.is size true tk m = true := by
  simp [SampP.is, h, h1, h2, h3]
theorem SampP.fit_one {size : Int} (h2 : 1 ≤ size) : SampP.fit size 1 = true := by simp [SampP.fit, h2]
theorem SampP.wcode_again {size tk : Int} {m : Nat} (h : SampP.tick tk = true) (h1 : SampP.fit size m = true) (h2 : 1 ≤ size) (h3 : size ≤ 8) : SampP.wcode size true tk m tk 1 = 0 := by
  simp [SampP.wcode, SampP.is_of h h1 h2 h3, h, SampP.fit_one h2]
theorem SampP.rcode_again {size tk : Int} {m : Nat} (h : SampP.tick tk = true) (h1 : SampP.fit size m = true) (h2 : 1 ≤ size) (h3 : size ≤ 8) : SampP.rcode size true tk m tk = 0 := by
  simp [SampP.rcode, SampP.is_of h h1 h2 h3, h]

set_option maxHeartbeats 1000000 in
set_option maxRecDepth 100000 in
theorem samplingOwn_walk (kd fr to size dep : Int) (f : Bool) (tm : Int) (s : Option Addr) (xs : List Int) (n cap : Nat) (tk : Int) (r : Option Addr) (zs : List Int) (m cap2 : Nat) (w : World) (hs : -9223372036854775808 ≤ size ∧ size ≤ 9223372036854775807)
    (hx : n = xs.length) (hrx : Rd w .u32 s xs) (hz : m = zs.length) (hrz : Rd w .u32 r zs)
    (htm : -9223372036854775808 ≤ tm ∧ tm ≤ 9223372036854775807) (htk : -9223372036854775808 ≤ tk ∧ tk ≤ 9223372036854775807) :
    Calls Try.prog 4 #[.agg #[.int .i64 kd, .int .i64 fr, .int .i64 to, .int .i64 size, .int .i64 dep], .agg #[.bool f, .int .i64 tm, .slice s n cap], .int .i64 tk, .slice r m cap2] w
      fun e w' => e = .returned (.bool true) ∧ Below w.heap.size w w' := by
  have HLX := Lib.hid hx
  have HLZ := Lib.hid hz
  clear hx hz
  by_cases h1 : 100 < m
  · go_enter Try.func4, Try.ntmps4
    go_wp2
    go_ret
    exact ⟨rfl, below_a2 w _ _⟩
  by_cases h2 : 100 < n
  · go_enter Try.func4, Try.ntmps4
    go_wp2
    go_ret
    exact ⟨rfl, below_a2 w _ _⟩
  by_cases h3 : m = 0
  · subst h3
    go_enter Try.func4, Try.ntmps4
    go_wp2
    go_ret
    exact ⟨rfl, below_a2 w _ _⟩
  have hm0 : ((m : Int) == 0) = false := by rw [beq_eq_false_iff_ne]; omega
  have hzl : 0 < zs.length := by rw [← HLZ.out]; omega
  obtain ⟨p, rfl⟩ := hrz.isSome hzl
  have hc0 := hrz.cell 0 hzl
  generalize zs[0] = z0 at hc0
  have hcp : ∀ o q, ((w.alloc o).alloc q).cell? p = some (.int .u32 z0) := fun o q => cell_below (below_a2 w o q) rfl (by simpa [Addr.add] using hc0)
  have HX := Lib.hid hrx
  have HZ := Lib.hid hrz
  have hm : m ≤ 1099511627776 := by omega
  have hn : n ≤ 1099511627776 := by omega
  have RG := Lib.hid (fun W h => sampRead_gen kd fr to size dep f tm s xs n cap tk W hs hn HLX.out h htm htk)
  by_cases hw : SampP.wcode size f tm n tk m = 0
  · obtain ⟨ht, hf, hs1, hs2, _⟩ := SampP.wcode_zero hw
    have W1 := Lib.hid (fun W h => sampWrite_ok kd fr to size dep f tm s n cap tk (some p) zs m cap2 W hs hn hm HLZ.out h htm htk hw)
    have W2 := Lib.hid (fun g y q W h => sampWrite_ok kd fr to size dep true tk (some ⟨g, 0, none⟩) m m tk q [y] 1 1 W hs hm (by decide) rfl h htk htk (SampP.wcode_again ht hf hs1 hs2))
    have LY := Lib.hid (fun (y : Int) (W : World) => rd_lits W [y] 40 #[.int .u32 y] rfl)
    have R3 := Lib.hid (fun g W h => sampRead_ok kd fr to size dep true tk (some ⟨g, 0, none⟩) zs m m tk W hs hm HLZ.out h htk htk (SampP.rcode_again ht hf hs1 hs2))
    have R4 := Lib.hid (fun g y W h => sampRead_ok kd fr to size dep true tk (some ⟨g, 0, none⟩) [y] 1 1 tk W hs (by decide) rfl h htk htk (SampP.rcode_again ht (SampP.fit_one hs1) hs1 hs2))
    have S1 := Lib.hid (fun g W h1 h2 => rowsSame_any (some ⟨g, 0, none⟩) (some p) zs zs m m m cap2 W HLZ.out HLZ.out h1 h2 hm)
    rw [show (zs == zs) = true by simp] at S1
    generalize tk - tk = age3 at *
    clear hrx hrz hzl hc0 ht hf hs1 hs2 hw
    generalize SampP.rcode size f tm n tk = c2 at *
    go_enter Try.func4, Try.ntmps4
    go_wp2_with fail
    refine (W1.out _ (HZ.out.below (below_a2 w _ _))).mono ?_
    rintro e w1 ⟨g, rfl, hg, hrg, hb1⟩
    have hz1 := HZ.out.below (below_step (below_a2 w _ _) hb1)
    have ah := Lib.hid (kept hb1 (kept_alloc (at_a1 w _ _ _)))
    obtain ⟨ac0, ac1, ac2, ac3, ac4⟩ := box5 ah.out
    obtain ⟨aa0, aa1, aa2, aa3, aa4⟩ := box5a ah.out
    have aK := ah; clear ah
    have bh := Lib.hid (kept hb1 (at_a2 w _ _ _ _))
    obtain ⟨bc0, bc1, bc2⟩ := box3 bh.out
    obtain ⟨ba0, ba1, ba2⟩ := box3a bh.out
    have bK := bh; clear bh
    go_wp2_with fail
    refine (RG.out _ (((HX.out.below (below_a2 w _ _)).below hb1).below (below_a1 _ _))).mono ?_
    rintro e w2 ⟨lp, ln, lc, age, ls, rfl, hln, hln2, hlp, hrl, hb2⟩
    have HLN := Lib.hid hln
    clear hln
    have hz2 := hz1.below (below_step (below_a1 _ _) hb2)
    have hrg2 := hrg.below (below_step (below_a1 _ _) hb2)
    have ah := Lib.hid (kept hb2 (kept_alloc aK.out))
    try clear ac0; try clear ac1; try clear ac2; try clear ac3; try clear ac4; try clear aa0; try clear aa1; try clear aa2; try clear aa3; try clear aa4; try clear aK
    obtain ⟨ac0, ac1, ac2, ac3, ac4⟩ := box5 ah.out
    obtain ⟨aa0, aa1, aa2, aa3, aa4⟩ := box5a ah.out
    have aK := ah; clear ah
    have th := Lib.hid (kept hb2 (at_a1 w1 _ _ _))
    obtain ⟨tc0, tc1, tc2⟩ := box3 th.out
    obtain ⟨ta0, ta1, ta2⟩ := box3a th.out
    have tK := th; clear th
    go_wp2_with (first
      | (at_builtin; refine wpList_append_fresh rfl _ _ 25 rfl .u32 40 4 Try.uinfo_u32 Try.underlying25 (by decide) rfl lp ln lc ls rfl HLN.out hrl hlp hln2 ?_; intro s' c' w3 hr3 hb3; obtain ⟨aa0, aa1, aa2, aa3, aa4⟩ := box5a (kept hb3 aK.out); obtain ⟨ta0, ta1, ta2⟩ := box3a (kept hb3 tK.out); obtain ⟨ac0, ac1, ac2, ac3, ac4⟩ := box5 (kept hb3 aK.out); obtain ⟨tc0, tc1, tc2⟩ := box3 (kept hb3 tK.out))
      )
    have hz3 := hz2.below hb3
    have hrg3 := hrg2.below hb3
    have hrl3 := hrl.below hb3
    refine (W2.out _ _ _ _ (LY.out _ _ _ (by simp))).mono ?_
    rintro e w4 ⟨g2, rfl, hg2, hru, hb4⟩
    have b4 := below_step (below_a1 w3 _) hb4
    have hz4 := hz3.below b4
    have hrg4 := hrg3.below b4
    have hrl4 := hrl3.below b4
    have hrw4 := hr3.below b4
    have ah := Lib.hid (kept hb4 (kept_alloc (kept hb3 aK.out)))
    try clear ac0; try clear ac1; try clear ac2; try clear ac3; try clear ac4; try clear aa0; try clear aa1; try clear aa2; try clear aa3; try clear aa4; try clear aK
    obtain ⟨ac0, ac1, ac2, ac3, ac4⟩ := box5 ah.out
    obtain ⟨aa0, aa1, aa2, aa3, aa4⟩ := box5a ah.out
    have aK := ah; clear ah
    have th := Lib.hid (kept hb4 (kept_alloc (kept hb3 tK.out)))
    try clear tc0; try clear tc1; try clear tc2; try clear ta0; try clear ta1; try clear ta2; try clear tK
    obtain ⟨tc0, tc1, tc2⟩ := box3 th.out
    obtain ⟨ta0, ta1, ta2⟩ := box3a th.out
    have tK := th; clear th
    go_wp2_with fail
    refine (R3.out _ _ (hrg4.below (below_a1 _ _))).mono ?_
    rintro e w5 ⟨g3, rfl, hg3, hrm, hb5⟩
    have b5 := below_step (below_a1 w4 _) hb5
    have hz5 := hz4.below b5
    have hru5 := hru.below b5
    have hrl5 := hrl4.below b5
    have hrw5 := hrw4.below b5
    have ah := Lib.hid (kept hb5 (kept_alloc aK.out))
    try clear ac0; try clear ac1; try clear ac2; try clear ac3; try clear ac4; try clear aa0; try clear aa1; try clear aa2; try clear aa3; try clear aa4; try clear aK
    obtain ⟨ac0, ac1, ac2, ac3, ac4⟩ := box5 ah.out
    have aK := ah; clear ah
    have uh := Lib.hid (kept hb5 (at_a1 w4 _ _ _))
    obtain ⟨uc0, uc1, uc2⟩ := box3 uh.out
    have uK := uh; clear uh
    go_wp2_with fail
    refine (R4.out _ _ _ hru5).mono ?_
    rintro e w6 ⟨g4, rfl, hg4, hro, hb6⟩
    have hz6 := hz5.below hb6
    have hrm6 := hrm.below hb6
    have hrl6 := hrl5.below hb6
    have hrw6 := hrw5.below hb6
    go_wp2_with fail
    refine (sampled_any _).mono ?_
    rintro e w7 ⟨rfl, hb7⟩
    have hz7 := hz6.below hb7
    have hrm7 := hrm6.below hb7
    have hrl7 := hrl6.below hb7
    have hrw7 := hrw6.below hb7
    have hro7 := hro.below hb7
    have k1 := below_step (below_a2 w _ _) hb1
    have k2 := below_step (below_step k1 (below_a1 _ _)) hb2
    have k3 := below_step k2 hb3
    have k4 := below_step k3 b4
    have k5 := below_step k4 b5
    have k7 := below_step (below_step k5 hb6) hb7
    by_cases h0 : c2 = 0
    · subst h0
      go_wp2_with fail
      refine (rowsSame_any s' lp ls ls ln ln c' lc _ HLN.out HLN.out hrw7 hrl7 hln2).mono ?_
      rintro e w8 ⟨rfl, hb8⟩
      rw [show (ls == ls) = true by simp]
      go_wp2_with fail
      refine (S1.out _ _ (hrm7.below hb8) (hz7.below hb8)).mono ?_
      rintro e w9 ⟨rfl, hb9⟩
      have hoc := ((hro7.below hb8).below hb9).cell 0 (by simp)
      simp only [Addr.add, if_true, List.getElem_cons_zero] at hoc
      go_wp2
      go_ret
      exact ⟨by simp, below_step (below_step k7 hb8) hb9⟩
    · go_wp2_with fail
      refine (S1.out _ _ hrm7 hz7).mono ?_
      rintro e w9 ⟨rfl, hb9⟩
      have hoc := (hro7.below hb9).cell 0 (by simp)
      simp only [Addr.add, if_true, List.getElem_cons_zero] at hoc
      go_wp2
      go_ret
      exact ⟨by simp, below_step k7 hb9⟩
  · have W1 := Lib.hid (fun W h => sampWrite_bad kd fr to size dep f tm s n cap tk (some p) zs m cap2 W hs hn hm HLZ.out h htm htk (SampP.wcode size f tm n tk m) rfl hw)
    have W2 := Lib.hid (fun y q W h => sampWrite_gen kd fr to size dep false 0 none 0 0 tk q [y] 1 1 W hs (by decide) (by decide) rfl h (by decide) htk)
    have LY := Lib.hid (fun (y : Int) (W : World) => rd_lits W [y] 40 #[.int .u32 y] rfl)
    clear hrx hrz hzl hc0
    generalize SampP.wcode size f tm n tk m = c1 at *
    generalize SampP.rcode size f tm n tk = c2 at *
    go_enter Try.func4, Try.ntmps4
    go_wp2_with fail
    refine (W1.out _ (HZ.out.below (below_a2 w _ _))).mono ?_
    rintro e w1 ⟨rfl, hb1⟩
    have ah := Lib.hid (kept hb1 (kept_alloc (at_a1 w _ _ _)))
    try clear ac0; try clear ac1; try clear ac2; try clear ac3; try clear ac4; try clear aK
    obtain ⟨ac0, ac1, ac2, ac3, ac4⟩ := box5 ah.out
    obtain ⟨aa0, aa1, aa2, aa3, aa4⟩ := box5a ah.out
    have aK := ah; clear ah
    have bh := Lib.hid (kept hb1 (at_a2 w _ _ _ _))
    try clear bc0; try clear bc1; try clear bc2; try clear ba0; try clear ba1; try clear ba2; try clear bK
    obtain ⟨bc0, bc1, bc2⟩ := box3 bh.out
    obtain ⟨ba0, ba1, ba2⟩ := box3a bh.out
    have bK := bh; clear bh
    go_wp2_with fail
    refine (RG.out _ (((HX.out.below (below_a2 w _ _)).below hb1).below (below_a1 _ _))).mono ?_
    rintro e w2 ⟨lp, ln, lc, age, ls, rfl, hln, hln2, hlp, hrl, hb2⟩
    have HLN := Lib.hid hln
    clear hln
    have ah := Lib.hid (kept hb2 (kept_alloc aK.out))
    try clear ac0; try clear ac1; try clear ac2; try clear ac3; try clear ac4; try clear aa0; try clear aa1; try clear aa2; try clear aa3; try clear aa4; try clear aK
    obtain ⟨ac0, ac1, ac2, ac3, ac4⟩ := box5 ah.out
    obtain ⟨aa0, aa1, aa2, aa3, aa4⟩ := box5a ah.out
    have aK := ah; clear ah
    have th := Lib.hid (kept hb2 (at_a1 w1 _ _ _))
    try clear tc0; try clear tc1; try clear tc2; try clear ta0; try clear ta1; try clear ta2; try clear tK
    obtain ⟨tc0, tc1, tc2⟩ := box3 th.out
    obtain ⟨ta0, ta1, ta2⟩ := box3a th.out
    have tK := th; clear th
    go_wp2_with (first
      | (at_builtin; go_loud (refine wpList_append_fresh rfl _ _ 25 rfl .u32 40 4 Try.uinfo_u32 Try.underlying25 (by decide) rfl lp ln lc ls rfl HLN.out hrl hlp hln2 ?_); intro s' c' w3 hr3 hb3; obtain ⟨aa0, aa1, aa2, aa3, aa4⟩ := box5a (kept hb3 aK.out); obtain ⟨ta0, ta1, ta2⟩ := box3a (kept hb3 tK.out); obtain ⟨ac0, ac1, ac2, ac3, ac4⟩ := box5 (kept hb3 aK.out); obtain ⟨tc0, tc1, tc2⟩ := box3 (kept hb3 tK.out))
      )
    refine (W2.out _ _ _ (LY.out _ _ _ (by simp))).mono ?_
    rintro e w4 ⟨f', tm', s2, n2, c2', c3, rfl, hb4⟩
    go_wp2_with fail
    refine (sampled_any _).mono ?_
    rintro e w5 ⟨rfl, hb5⟩
    go_wp2
    go_ret
    refine ⟨rfl, ?_⟩
    have k1 := below_step (below_a2 w _ _) hb1
    have k2 := below_step (below_step k1 (below_a1 _ _)) hb2
    have k3 := below_step k2 hb3
    have k4 := below_step (below_step k3 (below_a1 _ _)) hb4
    exact below_step (below_step k4 (below_a1 _ _)) hb5

end Go.Proofs.Ytkcpmghlndnfbaa
