/-
  The walks of the statements of layer 22: each answers true, and writes nothing that was there.
-/
import Derived.Test.YtkcpmghlndnfbaaSampWrite
namespace Go.Proofs.Ytkcpmghlndnfbaa
open Go.RowKit
set_option linter.unusedVariables false
set_option linter.unusedSimpArgs false

theorem sampRead_ok (kd fr to size dep : Int) (f : Bool) (tm : Int) (s : Option Addr) (zs : List Int) (n cap : Nat) (tk : Int) (w : World) (hs : -9223372036854775808 ≤ size ∧ size ≤ 9223372036854775807) (hn : n ≤ 1099511627776) (hz : n = zs.length) (hr : Rd w .u32 s zs) (htm : -9223372036854775808 ≤ tm ∧ tm ≤ 9223372036854775807) (htk : -9223372036854775808 ≤ tk ∧ tk ≤ 9223372036854775807) (h0 : SampP.rcode size f tm n tk = 0) :
    Calls Try.prog 7 #[.agg #[.int .i64 kd, .int .i64 fr, .int .i64 to, .int .i64 size, .int .i64 dep], .agg #[.bool f, .int .i64 tm, .slice s n cap], .int .i64 tk] w
      fun e w' => ∃ g, e = .returned (.tuple #[.slice (some ⟨g, 0, none⟩) n n, .int .i64 (tk - tm), .int .i64 0]) ∧ w.heap.size ≤ g ∧ Rd w' .u32 (some ⟨g, 0, none⟩) zs ∧ Below w.heap.size w w' := by
  refine (sampRead_any kd fr to size dep f tm s zs n cap tk w hs hn hz hr htm htk).mono ?_
  rintro e w' ⟨⟨h, _⟩ | ⟨_, g, he, hg, hr'⟩, hb⟩
  · exact absurd h0 h
  · exact ⟨g, he, hg, hr', hb⟩
theorem sampRead_bad (kd fr to size dep : Int) (f : Bool) (tm : Int) (s : Option Addr) (zs : List Int) (n cap : Nat) (tk : Int) (w : World) (hs : -9223372036854775808 ≤ size ∧ size ≤ 9223372036854775807) (hn : n ≤ 1099511627776) (hz : n = zs.length) (hr : Rd w .u32 s zs) (htm : -9223372036854775808 ≤ tm ∧ tm ≤ 9223372036854775807) (htk : -9223372036854775808 ≤ tk ∧ tk ≤ 9223372036854775807) (c : Int) (hc : SampP.rcode size f tm n tk = c) (h0 : c ≠ 0) :
    Calls Try.prog 7 #[.agg #[.int .i64 kd, .int .i64 fr, .int .i64 to, .int .i64 size, .int .i64 dep], .agg #[.bool f, .int .i64 tm, .slice s n cap], .int .i64 tk] w
      fun e w' => e = .returned (.tuple #[.slice none 0 0, .int .i64 0, .int .i64 c]) ∧ Below w.heap.size w w' := by
  subst hc
  refine (sampRead_any kd fr to size dep f tm s zs n cap tk w hs hn hz hr htm htk).mono ?_
  rintro e w' ⟨⟨_, he⟩ | ⟨h, _⟩, hb⟩
  · exact ⟨he, hb⟩
  · exact absurd h h0
theorem sampWrite_ok (kd fr to size dep : Int) (f : Bool) (tm : Int) (s : Option Addr) (n cap : Nat) (tk : Int) (r : Option Addr) (zs : List Int) (m cap2 : Nat) (w : World) (hs : -9223372036854775808 ≤ size ∧ size ≤ 9223372036854775807) (hn : n ≤ 1099511627776) (hm : m ≤ 1099511627776) (hz : m = zs.length) (hr : Rd w .u32 r zs) (htm : -9223372036854775808 ≤ tm ∧ tm ≤ 9223372036854775807) (htk : -9223372036854775808 ≤ tk ∧ tk ≤ 9223372036854775807) (h0 : SampP.wcode size f tm n tk m = 0) :
    Calls Try.prog 5 #[.agg #[.int .i64 kd, .int .i64 fr, .int .i64 to, .int .i64 size, .int .i64 dep], .agg #[.bool f, .int .i64 tm, .slice s n cap], .int .i64 tk, .slice r m cap2] w
      fun e w' => ∃ g, e = .returned (.tuple #[.agg #[.bool true, .int .i64 tk, .slice (some ⟨g, 0, none⟩) m m], .int .i64 0]) ∧ w.heap.size ≤ g ∧ Rd w' .u32 (some ⟨g, 0, none⟩) zs ∧ Below w.heap.size w w' := by
  refine (sampWrite_any kd fr to size dep f tm s n cap tk r zs m cap2 w hs hn hm hz hr htm htk).mono ?_
  rintro e w' ⟨⟨h, _⟩ | ⟨_, g, he, hg, hr'⟩, hb⟩
  · exact absurd h0 h
  · exact ⟨g, he, hg, hr', hb⟩
theorem sampWrite_bad (kd fr to size dep : Int) (f : Bool) (tm : Int) (s : Option Addr) (n cap : Nat) (tk : Int) (r : Option Addr) (zs : List Int) (m cap2 : Nat) (w : World) (hs : -9223372036854775808 ≤ size ∧ size ≤ 9223372036854775807) (hn : n ≤ 1099511627776) (hm : m ≤ 1099511627776) (hz : m = zs.length) (hr : Rd w .u32 r zs) (htm : -9223372036854775808 ≤ tm ∧ tm ≤ 9223372036854775807) (htk : -9223372036854775808 ≤ tk ∧ tk ≤ 9223372036854775807) (c : Int) (hc : SampP.wcode size f tm n tk m = c) (h0 : c ≠ 0) :
    Calls Try.prog 5 #[.agg #[.int .i64 kd, .int .i64 fr, .int .i64 to, .int .i64 size, .int .i64 dep], .agg #[.bool f, .int .i64 tm, .slice s n cap], .int .i64 tk, .slice r m cap2] w
      fun e w' => e = .returned (.tuple #[.agg #[.bool false, .int .i64 0, .slice none 0 0], .int .i64 c]) ∧ Below w.heap.size w w' := by
  subst hc
  refine (sampWrite_any kd fr to size dep f tm s n cap tk r zs m cap2 w hs hn hm hz hr htm htk).mono ?_
  rintro e w' ⟨⟨_, he⟩ | ⟨h, _⟩, hb⟩
  · exact ⟨he, hb⟩
  · exact absurd h h0

theorem rd_lits (W : World) (zs : List Int) (t : TypeId) (cs : Array Value) (hc : cs = (icells .u32 zs).toArray) (g : Nat) (hg : g = W.heap.size) : Rd (W.alloc (.cells cs t)) .u32 (some ⟨g, 0, none⟩) zs := by
  subst hc hg
  exact Rd.ofRow (heap_alloc_new W _) (fun i z h => by simp [icells, h])

set_option maxHeartbeats 1000000 in
set_option maxRecDepth 100000 in
theorem sampled_any (w : World) :
    Calls Try.prog 8 #[] w fun e w' => e = .returned (.bool true) ∧ Below w.heap.size w w' := by
  have R1 := Lib.hid (fun W => sampRead_bad 1 0 0 2 1 false 0 none [] 0 0 5 W (by decide) (by decide) rfl (Rd.nil _ _ _) (by decide) (by decide) 15 (by decide) (by decide))
  have R2 := Lib.hid (fun g W h => sampRead_ok 1 0 0 2 1 true 5 (some ⟨g, 0, none⟩) [7, 8] 2 2 7 W (by decide) (by decide) rfl h (by decide) (by decide) (by decide))
  have W1 := Lib.hid (fun r W h => sampWrite_ok 1 0 0 2 1 false 0 none 0 0 5 r [7, 8] 2 2 W (by decide) (by decide) (by decide) rfl h (by decide) (by decide) (by decide))
  have W2 := Lib.hid (fun g r W h => sampWrite_bad 1 0 0 2 1 true 5 (some ⟨g, 0, none⟩) 2 2 4 r [1] 1 1 W (by decide) (by decide) (by decide) rfl h (by decide) (by decide) 6 (by decide) (by decide))
  have W3 := Lib.hid (fun g r W h => sampWrite_bad 1 0 0 2 1 true 5 (some ⟨g, 0, none⟩) 2 2 5 r [1, 2, 3] 3 3 W (by decide) (by decide) (by decide) rfl h (by decide) (by decide) 2 (by decide) (by decide))
  have F1 := Lib.hid (fun g W h => sampFresh_any 1 0 0 2 1 true 5 (some ⟨g, 0, none⟩) [7, 8] 2 2 7 2 W (by decide) (by decide) rfl h (by decide) (by decide) (by decide))
  have F2 := Lib.hid (fun g W h => sampFresh_any 1 0 0 2 1 true 5 (some ⟨g, 0, none⟩) [7, 8] 2 2 7 1 W (by decide) (by decide) rfl h (by decide) (by decide) (by decide))
  have I1 := Lib.hid (fun g W => sampIs_any 1 0 0 2 1 true 5 (some ⟨g, 0, none⟩) 2 2 W (by decide) (by decide))
  have S1 := Lib.hid (fun g r W h1 h2 => rowsSame_any (some ⟨g, 0, none⟩) r [7, 8] [7, 8] 2 2 2 2 W rfl rfl h1 h2 (by decide))
  have L78 := Lib.hid (fun W : World => rd_lits W [7, 8] 40 #[.int .u32 7, .int .u32 8] rfl)
  have L1 := Lib.hid (fun W : World => rd_lits W [1] 40 #[.int .u32 1] rfl)
  have L123 := Lib.hid (fun W : World => rd_lits W [1, 2, 3] 40 #[.int .u32 1, .int .u32 2, .int .u32 3] rfl)
  rw [show (decide (SampP.rcode 2 true 5 2 7 = 0) && decide ((7 : Int) - 5 ≤ 2)) = true by decide] at F1
  rw [show (decide (SampP.rcode 2 true 5 2 7 = 0) && decide ((7 : Int) - 5 ≤ 1)) = false by decide] at F2
  rw [show SampP.is 2 true 5 2 = true by decide] at I1
  go_enter Try.func8, Try.ntmps8
  go_wp2_with fail
  refine (R1.out _).mono ?_
  rintro e w1 ⟨rfl, hb1⟩
  have ah := Lib.hid (kept hb1 (at_a1 w _ _ _))
  obtain ⟨ac0, ac1, ac2, ac3, ac4⟩ := box5 ah.out
  have aK := ah; clear ah
  go_wp2_with fail
  refine (W1.out _ _ (L78.out _ _ (by simp))).mono ?_
  rintro e w2 ⟨g, rfl, hg, hr2, hb2⟩
  have ah := Lib.hid (kept hb2 (kept_alloc aK.out))
  try clear ac0; try clear ac1; try clear ac2; try clear ac3; try clear ac4; try clear aK
  obtain ⟨ac0, ac1, ac2, ac3, ac4⟩ := box5 ah.out
  obtain ⟨aa0, aa1, aa2, aa3, aa4⟩ := box5a ah.out
  have aK := ah; clear ah
  go_wp2_with fail
  refine (R2.out _ _ (hr2.below (below_a1 _ _))).mono ?_
  rintro e w3 ⟨g2, rfl, hg2, hr3, hb3⟩
  have ah := Lib.hid (kept hb3 (kept_alloc aK.out))
  try clear ac0; try clear ac1; try clear ac2; try clear ac3; try clear ac4; try clear aa0; try clear aa1; try clear aa2; try clear aa3; try clear aa4; try clear aK
  obtain ⟨ac0, ac1, ac2, ac3, ac4⟩ := box5 ah.out
  obtain ⟨aa0, aa1, aa2, aa3, aa4⟩ := box5a ah.out
  have aK := ah; clear ah
  have bh := Lib.hid (kept hb3 (at_a1 w2 _ _ _))
  obtain ⟨bc0, bc1, bc2⟩ := box3 bh.out
  obtain ⟨ba0, ba1, ba2⟩ := box3a bh.out
  have bK := bh; clear bh
  have hr2 := (hr2.below (below_a1 _ _)).below hb3
  go_wp2_with fail
  refine (W2.out _ _ _ (L1.out _ _ (by simp))).mono ?_
  rintro e w4 ⟨rfl, hb4⟩
  have ah := Lib.hid (kept hb4 (kept_alloc aK.out))
  try clear ac0; try clear ac1; try clear ac2; try clear ac3; try clear ac4; try clear aa0; try clear aa1; try clear aa2; try clear aa3; try clear aa4; try clear aK
  obtain ⟨ac0, ac1, ac2, ac3, ac4⟩ := box5 ah.out
  obtain ⟨aa0, aa1, aa2, aa3, aa4⟩ := box5a ah.out
  have aK := ah; clear ah
  have bh := Lib.hid (kept hb4 (kept_alloc bK.out))
  try clear bc0; try clear bc1; try clear bc2; try clear ba0; try clear ba1; try clear ba2; try clear bK
  obtain ⟨bc0, bc1, bc2⟩ := box3 bh.out
  obtain ⟨ba0, ba1, ba2⟩ := box3a bh.out
  have bK := bh; clear bh
  have hr2 := (hr2.below (below_a1 _ _)).below hb4
  have hr3 := (hr3.below (below_a1 _ _)).below hb4
  go_wp2_with fail
  refine (W3.out _ _ _ (L123.out _ _ (by simp))).mono ?_
  rintro e w5 ⟨rfl, hb5⟩
  have ah := Lib.hid (kept hb5 (kept_alloc (kept_alloc aK.out)))
  try clear ac0; try clear ac1; try clear ac2; try clear ac3; try clear ac4; try clear aa0; try clear aa1; try clear aa2; try clear aa3; try clear aa4; try clear aK
  obtain ⟨ac0, ac1, ac2, ac3, ac4⟩ := box5 ah.out
  obtain ⟨aa0, aa1, aa2, aa3, aa4⟩ := box5a ah.out
  have aK := ah; clear ah
  have bh := Lib.hid (kept hb5 (kept_alloc (kept_alloc bK.out)))
  try clear bc0; try clear bc1; try clear bc2; try clear ba0; try clear ba1; try clear ba2; try clear bK
  obtain ⟨bc0, bc1, bc2⟩ := box3 bh.out
  obtain ⟨ba0, ba1, ba2⟩ := box3a bh.out
  have bK := bh; clear bh
  have hr2 := (hr2.below (below_a2 _ _ _)).below hb5
  have hr3 := (hr3.below (below_a2 _ _ _)).below hb5
  go_wp2_with fail
  refine (S1.out _ _ _ (hr3.below (below_a2 _ _ _)) (L78.out _ _ (by simp))).mono ?_
  rintro e w6 ⟨rfl, hb6⟩
  have ah := Lib.hid (kept hb6 (kept_alloc (kept_alloc aK.out)))
  try clear ac0; try clear ac1; try clear ac2; try clear ac3; try clear ac4; try clear aa0; try clear aa1; try clear aa2; try clear aa3; try clear aa4; try clear aK
  obtain ⟨ac0, ac1, ac2, ac3, ac4⟩ := box5 ah.out
  have aK := ah; clear ah
  have bh := Lib.hid (kept hb6 (kept_alloc (kept_alloc bK.out)))
  try clear bc0; try clear bc1; try clear bc2; try clear ba0; try clear ba1; try clear ba2; try clear bK
  obtain ⟨bc0, bc1, bc2⟩ := box3 bh.out
  have bK := bh; clear bh
  have hr2 := (hr2.below (below_a2 _ _ _)).below hb6
  go_wp2_with fail
  refine (I1.out _ _).mono ?_
  rintro e w7 ⟨rfl, hb7⟩
  have ah := Lib.hid (kept hb7 aK.out)
  try clear ac0; try clear ac1; try clear ac2; try clear ac3; try clear ac4; try clear aK
  obtain ⟨ac0, ac1, ac2, ac3, ac4⟩ := box5 ah.out
  have aK := ah; clear ah
  have bh := Lib.hid (kept hb7 bK.out)
  try clear bc0; try clear bc1; try clear bc2; try clear bK
  obtain ⟨bc0, bc1, bc2⟩ := box3 bh.out
  have bK := bh; clear bh
  have hr2 := hr2.below hb7
  go_wp2_with fail
  refine (F1.out _ _ hr2).mono ?_
  rintro e w8 ⟨rfl, hb8⟩
  have ah := Lib.hid (kept hb8 aK.out)
  try clear ac0; try clear ac1; try clear ac2; try clear ac3; try clear ac4; try clear aK
  obtain ⟨ac0, ac1, ac2, ac3, ac4⟩ := box5 ah.out
  have aK := ah; clear ah
  have bh := Lib.hid (kept hb8 bK.out)
  try clear bc0; try clear bc1; try clear bc2; try clear bK
  obtain ⟨bc0, bc1, bc2⟩ := box3 bh.out
  have bK := bh; clear bh
  have hr2 := hr2.below hb8
  go_wp2_with fail
  refine (F2.out _ _ hr2).mono ?_
  rintro e w9 ⟨rfl, hb9⟩
  go_wp2
  go_ret
  refine ⟨rfl, ?_⟩
  have h1 := below_step (below_a1 w _) hb1
  have h2 := below_step (below_step h1 (below_a1 _ _)) hb2
  have h3 := below_step (below_step h2 (below_a1 _ _)) hb3
  have h4 := below_step (below_step h3 (below_a1 _ _)) hb4
  have h5 := below_step (below_step h4 (below_a2 _ _ _)) hb5
  have h6 := below_step (below_step h5 (below_a2 _ _ _)) hb6
  exact below_step (below_step (below_step h6 hb7) hb8) hb9

end Go.Proofs.Ytkcpmghlndnfbaa
