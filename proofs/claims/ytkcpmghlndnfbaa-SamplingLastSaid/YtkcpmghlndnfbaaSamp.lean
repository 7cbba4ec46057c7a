/-
  The walks of package sampling.
-/
import Derived.Test.YtkcpmghlndnfbaaRows
import Derived.Test.YtkcpmghlndnfbaaInts
import Derived.Deep.LoopGhost
namespace Go.Proofs.Ytkcpmghlndnfbaa
open Go.RowKit
set_option linter.unusedVariables false
set_option linter.unusedSimpArgs false

theorem Try.uinfo_u32 : (Try.prog.info? 40).map (fun i => (i.zero, i.size, i.bytes)) = some (some (.int .u32 0), 1, 4) := by kernel_rfl
theorem Try.usize_u32 : (Try.prog.info? 40).map (·.size) = some 1 := by kernel_rfl

namespace SampP
def tick (a : Int) : Bool := decide (0 ≤ a) && decide (a ≤ 1099511627776)
def fit (size : Int) (n : Nat) : Bool := decide (1 ≤ n) && decide ((n : Int) ≤ size)
def is (size : Int) (full : Bool) (tm : Int) (n : Nat) : Bool :=
  decide (1 ≤ size) && decide (size ≤ 8) && (if full then tick tm && fit size n else tm == 0 && n == 0)
end SampP

set_option maxHeartbeats 400000 in
set_option maxRecDepth 100000 in
theorem isTick_any (a : Int) (w : World) :
    Calls Try.prog 11 #[.int .i64 a] w fun e w' => e = .returned (.bool (SampP.tick a)) ∧ w = w' := by
  go_enter Try.func11, Try.ntmps11
  go_wp2
  all_goals go_ret
  all_goals exact ⟨ret_bool (by rw [Bool.eq_iff_iff]; simp [SampP.tick] <;> omega), rfl⟩

set_option maxHeartbeats 400000 in
set_option maxRecDepth 100000 in
theorem fitting_any (kd fr to size dep : Int) (s : Option Addr) (n cap : Nat) (w : World) (hs : -9223372036854775808 ≤ size ∧ size ≤ 9223372036854775807) (hn : n ≤ 1099511627776) :
    Calls Try.prog 12 #[.agg #[.int .i64 kd, .int .i64 fr, .int .i64 to, .int .i64 size, .int .i64 dep], .slice s n cap] w
      fun e w' => e = .returned (.bool (SampP.fit size n)) ∧ Below w.heap.size w w' := by
  go_enter Try.func12, Try.ntmps12
  go_wp2
  all_goals go_ret
  all_goals exact ⟨ret_bool (by rw [Bool.eq_iff_iff]; simp [SampP.fit] <;> omega), (Below.refl _ _).alloc (Nat.le_refl _) _⟩

set_option maxHeartbeats 400000 in
set_option maxRecDepth 100000 in
theorem copied_any (s : Option Addr) (zs : List Int) (n cap : Nat) (w : World) (hn : n ≤ 1099511627776) (hl0 : n = zs.length) (hr : Rd w .u32 s zs) :
    Calls Try.prog 13 #[.slice s n cap] w
      fun e w' => ∃ g, e = .returned (.slice (some ⟨g, 0, none⟩) n n) ∧ w.heap.size ≤ g ∧ Rd w' .u32 (some ⟨g, 0, none⟩) zs ∧ Below w.heap.size w w' := by
  have HR := Lib.hid hr
  have hl := Lib.hid hl0
  clear hr hl0
  go_enter Try.func13, Try.ntmps13
  go_wp2_with (first
    | (at_make; refine wpList_make_ints rfl _ _ 25 rfl .u32 w.heap.size 40 4 Try.uinfo_u32 Try.underlying25 (by decide) n rfl rfl hn (Nat.le_refl _) ?_; intro w1 hown1 hb1; have HR1 := Lib.hid (HR.out.below hb1))
    | (refine wpList_copy_all rfl (.tmp 8) (.tmp 9) 25 25 rfl w.heap.size 40 Try.underlying25 Try.usize_u32 .u32 zs (List.replicate n 0) _ _ _ _ _ rfl rfl hl.out (by simp) (Nat.le_refl _) hown1 HR1.out ?_; intro w2 hown2 hb2))
  go_ret
  exact ⟨_, rfl, Nat.le_refl _, Rd.ofOwn hown2, hb1.trans hb2⟩


theorem SampP.is_low {size tm : Int} {f : Bool} {n : Nat} (h : size < 1) : SampP.is size f tm n = false := by
  rw [Bool.eq_false_iff]; simp [SampP.is]; omega
theorem SampP.is_high {size tm : Int} {f : Bool} {n : Nat} (h : 8 < size) : SampP.is size f tm n = false := by
  rw [Bool.eq_false_iff]; simp [SampP.is]; omega
theorem SampP.is_full {size tm : Int} {n : Nat} (h1 : 1 ≤ size) (h2 : size ≤ 8) : SampP.is size true tm n = (SampP.tick tm && SampP.fit size n) := by
  simp [SampP.is, h1, h2]
theorem SampP.is_empty {size tm : Int} {n : Nat} (h1 : 1 ≤ size) (h2 : size ≤ 8) : SampP.is size false tm n = (tm == 0 && n == 0) := by
  simp [SampP.is, h1, h2]

set_option maxHeartbeats 1000000 in
set_option maxRecDepth 100000 in
theorem sampIs_any (kd fr to size dep : Int) (f : Bool) (tm : Int) (s : Option Addr) (n cap : Nat) (w : World) (hs : -9223372036854775808 ≤ size ∧ size ≤ 9223372036854775807) (hn : n ≤ 1099511627776) :
    Calls Try.prog 6 #[.agg #[.int .i64 kd, .int .i64 fr, .int .i64 to, .int .i64 size, .int .i64 dep], .agg #[.bool f, .int .i64 tm, .slice s n cap]] w
      fun e w' => e = .returned (.bool (SampP.is size f tm n)) ∧ Below w.heap.size w w' := by
  have HF := Lib.hid (fun W => fitting_any kd fr to size dep s n cap W hs hn)
  by_cases h1 : size < 1
  · rw [SampP.is_low h1]
    go_enter Try.func6, Try.ntmps6
    go_wp2
    go_ret
    exact ⟨rfl, below_a2 w _ _⟩
  by_cases h2 : 8 < size
  · rw [SampP.is_high h2]
    go_enter Try.func6, Try.ntmps6
    go_wp2
    go_ret
    exact ⟨rfl, below_a2 w _ _⟩
  cases f with
  | false =>
    rw [SampP.is_empty (by omega) (by omega)]
    go_enter Try.func6, Try.ntmps6
    go_wp2
    all_goals go_ret
    all_goals exact ⟨ret_bool (by rw [Bool.eq_iff_iff]; simp <;> omega), below_a2 w _ _⟩
  | true =>
    rw [SampP.is_full (by omega) (by omega)]
    cases ht : SampP.tick tm with
    | false =>
      have HT := Lib.hid (fun W => isTick_any tm W)
      rw [ht] at HT
      go_enter Try.func6, Try.ntmps6
      go_wp2_with fail
      refine (HT.out _).mono ?_
      rintro e w' ⟨rfl, rfl⟩
      go_wp2
      go_ret
      exact ⟨rfl, below_a2 w _ _⟩
    | true =>
      have HT := Lib.hid (fun W => isTick_any tm W)
      rw [ht] at HT
      go_enter Try.func6, Try.ntmps6
      go_wp2_with fail
      refine (HT.out _).mono ?_
      rintro e w' ⟨rfl, rfl⟩
      go_wp2_with fail
      refine (HF.out _).mono ?_
      rintro e w1 ⟨rfl, hb1⟩
      go_wp2
      go_ret
      exact ⟨rfl, below_step (below_a2 w _ _) hb1⟩

set_option maxHeartbeats 1000000 in
set_option maxRecDepth 100000 in
theorem rowsSame_any (s r : Option Addr) (zs ys : List Int) (n m c d : Nat) (w : World) (hz0 : n = zs.length) (hy0 : m = ys.length) (hs : Rd w .u32 s zs) (hr : Rd w .u32 r ys) (hn : n ≤ 1099511627776) :
    Calls Try.prog 9 #[.slice s n c, .slice r m d] w
      fun e w' => e = .returned (.bool (zs == ys)) ∧ Below w.heap.size w w' := by
  by_cases hl : n = m
  · subst hl
    have hz := Lib.hid hz0
    have hy := Lib.hid hy0
    clear hz0 hy0
    by_cases h0 : 0 < n
    · obtain ⟨p, rfl⟩ := hs.isSome (by rw [← hz.out]; exact h0)
      obtain ⟨q, rfl⟩ := hr.isSome (by rw [← hy.out]; exact h0)
      have HS := Lib.hid hs
      have HR := Lib.hid hr
      clear hs hr
      go_enter Try.func9, Try.ntmps9
      go_wp2
      go_loopw [5] (fun i wr => ∃ k : Nat, i = .int .i64 k ∧ k ≤ n ∧ Hid (∀ j (h1 : j < zs.length) (h2 : j < ys.length), j < k → zs[j] = ys[j]) ∧ Below w.heap.size w wr) (fun i _ => n - (intOf i).toNat)
      case atStart => exact ⟨0, rfl, by omega, fun j h1 h2 h3 => by omega, Below.refl _ _⟩
      case round =>
        obtain ⟨k, rfl, hk, hpre, hb⟩ := hrel
        by_cases hlt : k < n
        · have g1 : k < zs.length := by rw [← hz.out]; exact hlt
          have g2 : k < ys.length := by rw [← hy.out]; exact hlt
          have hc1 := (HS.out.below hb).cell k g1
          have hc2 := (HR.out.below hb).cell k g2
          by_cases he : zs[k] = ys[k]
          · have hnx : ∀ j (h1 : j < zs.length) (h2 : j < ys.length), j < k + 1 → zs[j] = ys[j] := by
              intro j h1 h2 h3
              by_cases hj : j < k
              · exact hpre.out j h1 h2 hj
              · obtain rfl : j = k := by omega
                exact he
            have HN := Lib.hid hnx
            rw [← he] at hc2
            generalize zs[k] = z at hc1 hc2
            clear he hnx g1 g2
            go_wp2
            go_quiet (fail)
            go_wp2
            go_roundw
            case rel => exact ⟨k + 1, by go_num, by omega, HN.out, bdrewN hb _⟩
            case measure => simp [intOf]; omega
          · have hne : (zs == ys) = false := by
              rw [beq_eq_false_iff_ne]; intro h; subst h; exact he rfl
            have HB := Lib.hid hne
            generalize zs[k] = z at hc1 he
            generalize ys[k] = y at hc2 he
            clear hne g1 g2
            go_wp2
            go_quiet (fail)
            go_wp2
            go_ret
            exact ⟨ret_bool HB.out.symm, bdrewN hb _⟩
        · obtain rfl : k = n := by omega
          have heq : zs = ys := List.ext_getElem (by rw [← hz.out, ← hy.out]) (fun j h1 h2 => hpre.out j h1 h2 (by rw [hz.out]; exact h1))
          go_wp2
          go_ret
          exact ⟨ret_bool (by simp [heq]), hb⟩
    · obtain rfl : n = 0 := by omega
      obtain rfl : zs = [] := List.eq_nil_of_length_eq_zero hz.out.symm
      obtain rfl : ys = [] := List.eq_nil_of_length_eq_zero hy.out.symm
      clear hz hy hs hr
      go_enter Try.func9, Try.ntmps9
      go_wp2
      go_loop [5] (fun i => i = .int .i64 0) (fun _ => 0)
      case atStart => rfl
      case round =>
        subst hrel
        go_wp2
        go_ret
        exact ⟨rfl, Below.refl _ _⟩
  · have hne : (zs == ys) = false := by
      rw [beq_eq_false_iff_ne]; intro h; subst h; exact hl (hz0.trans hy0.symm)
    have hlI : (n : Int) ≠ (m : Int) := by omega
    clear hz0 hy0 hs hr
    go_enter Try.func9, Try.ntmps9
    go_wp2
    go_ret
    exact ⟨ret_bool hne.symm, Below.refl _ _⟩


namespace SampP
/-- The codes of Read and of Write. -/
def rcode (size : Int) (f : Bool) (tm : Int) (n : Nat) (tk : Int) : Int :=
  if is size f tm n = false then 1 else if f = false then 15 else if tick tk = false ∨ tk < tm then 6 else 0
def wcode (size : Int) (f : Bool) (tm : Int) (n : Nat) (tk : Int) (m : Nat) : Int :=
  if is size f tm n = false then 1 else if tick tk = false ∨ (f = true ∧ tk < tm) then 6 else if fit size m = false then 2 else 0
end SampP

set_option maxHeartbeats 1000000 in
set_option maxRecDepth 100000 in
theorem sampRead_any (kd fr to size dep : Int) (f : Bool) (tm : Int) (s : Option Addr) (zs : List Int) (n cap : Nat) (tk : Int) (w : World) (hs : -9223372036854775808 ≤ size ∧ size ≤ 9223372036854775807) (hn : n ≤ 1099511627776) (hz : n = zs.length) (hr : Rd w .u32 s zs)
    (htm : -9223372036854775808 ≤ tm ∧ tm ≤ 9223372036854775807) (htk : -9223372036854775808 ≤ tk ∧ tk ≤ 9223372036854775807) :
    Calls Try.prog 7 #[.agg #[.int .i64 kd, .int .i64 fr, .int .i64 to, .int .i64 size, .int .i64 dep], .agg #[.bool f, .int .i64 tm, .slice s n cap], .int .i64 tk] w
      fun e w' => ((SampP.rcode size f tm n tk ≠ 0 ∧ e = .returned (.tuple #[.slice none 0 0, .int .i64 0, .int .i64 (SampP.rcode size f tm n tk)])) ∨
        (SampP.rcode size f tm n tk = 0 ∧ ∃ g, e = .returned (.tuple #[.slice (some ⟨g, 0, none⟩) n n, .int .i64 (tk - tm), .int .i64 0]) ∧ w.heap.size ≤ g ∧ Rd w' .u32 (some ⟨g, 0, none⟩) zs)) ∧ Below w.heap.size w w' := by
  have HI := Lib.hid (fun W => sampIs_any kd fr to size dep f tm s n cap W hs hn)
  have HZ := Lib.hid hz
  have HR := Lib.hid hr
  clear hz hr
  have HT := Lib.hid (fun W => isTick_any tk W)
  cases hi : SampP.is size f tm n with
  | false =>
    rw [hi] at HI
    have hc : SampP.rcode size f tm n tk = 1 := by simp [SampP.rcode, hi]
    rw [hc]
    go_enter Try.func7, Try.ntmps7
    go_wp2_with fail
    refine (HI.out _).mono ?_
    rintro e w1 ⟨rfl, hb1⟩
    go_wp2
    go_ret3
    exact ⟨.inl ⟨by decide, rfl⟩, below_step (below_a2 w _ _) hb1⟩
  | true =>
    rw [hi] at HI
    have HK := Lib.hid (fun (w1 : World) (hb1 : Below ((w.alloc (.cells #[.int .i64 kd, .int .i64 fr, .int .i64 to, .int .i64 size, .int .i64 dep] 23)).alloc (.cells #[.bool f, .int .i64 tm, .slice s n cap] 27)).heap.size
      ((w.alloc (.cells #[.int .i64 kd, .int .i64 fr, .int .i64 to, .int .i64 size, .int .i64 dep] 23)).alloc (.cells #[.bool f, .int .i64 tm, .slice s n cap] 27)) w1) =>
        kept hb1 (i := w.heap.size + 1) (o := .cells #[.bool f, .int .i64 tm, .slice s n cap] 27) (at_a2 w _ _ _ _))
    have HW := Lib.hid (fun (w1 : World) (hb1 : Below ((w.alloc (.cells #[.int .i64 kd, .int .i64 fr, .int .i64 to, .int .i64 size, .int .i64 dep] 23)).alloc (.cells #[.bool f, .int .i64 tm, .slice s n cap] 27)).heap.size
      ((w.alloc (.cells #[.int .i64 kd, .int .i64 fr, .int .i64 to, .int .i64 size, .int .i64 dep] 23)).alloc (.cells #[.bool f, .int .i64 tm, .slice s n cap] 27)) w1) =>
        below_step (below_a2 w _ _) hb1)
    cases f with
    | false =>
      have hc : SampP.rcode size false tm n tk = 15 := by simp [SampP.rcode, hi]
      rw [hc]
      go_enter Try.func7, Try.ntmps7
      go_wp2_with fail
      refine (HI.out _).mono ?_
      rintro e w1 ⟨rfl, hb1⟩
      have k1 := HK.out _ hb1
      have c10 := box k1 0 rfl
      have K1 := Lib.hid k1
      clear k1
      go_wp2
      go_ret3
      exact ⟨.inl ⟨by decide, rfl⟩, HW.out _ hb1⟩
    | true =>
      by_cases ht : SampP.tick tk = false ∨ tk < tm
      · have hc : SampP.rcode size true tm n tk = 6 := by simp [SampP.rcode, hi, ht]
        rw [hc]
        cases ht2 : SampP.tick tk with
        | false =>
          rw [ht2] at HT
          go_enter Try.func7, Try.ntmps7
          go_wp2_with fail
          refine (HI.out _).mono ?_
          rintro e w1 ⟨rfl, hb1⟩
          have k1 := HK.out _ hb1
          have c10 := box k1 0 rfl
          have K1 := Lib.hid k1
          clear k1
          go_wp2_with fail
          refine (HT.out _).mono ?_
          rintro e w' ⟨rfl, rfl⟩
          go_wp2
          go_ret3
          exact ⟨.inl ⟨by decide, rfl⟩, HW.out _ hb1⟩
        | true =>
          have hlt : tk < tm := by simpa [ht2] using ht
          rw [ht2] at HT
          go_enter Try.func7, Try.ntmps7
          go_wp2_with fail
          refine (HI.out _).mono ?_
          rintro e w1 ⟨rfl, hb1⟩
          have k1 := HK.out _ hb1
          have c10 := box k1 0 rfl
          have c11 := box k1 1 rfl
          have K1 := Lib.hid k1
          clear k1
          go_wp2_with fail
          refine (HT.out _).mono ?_
          rintro e w' ⟨rfl, rfl⟩
          go_wp2
          go_ret3
          exact ⟨.inl ⟨by decide, rfl⟩, HW.out _ hb1⟩
      · have hc : SampP.rcode size true tm n tk = 0 := by simp [SampP.rcode, hi, ht]
        rw [hc]
        have ht2 : SampP.tick tk = true := by cases h : SampP.tick tk <;> simp_all
        have hge : tm ≤ tk := by omega
        have hge0 : 0 ≤ tm ∧ tk ≤ 1099511627776 := by
          have h1 : SampP.tick tm = true := by simp [SampP.is] at hi; exact hi.2.1
          simp [SampP.tick] at h1 ht2; omega
        obtain ⟨hge1, hge2⟩ := hge0
        clear ht
        have HT2 := HT
        rw [ht2] at HT
        go_enter Try.func7, Try.ntmps7
        go_wp2_with fail
        refine (HI.out _).mono ?_
        rintro e w1 ⟨rfl, hb1⟩
        have k1 := HK.out _ hb1
        have c10 := box k1 0 rfl
        have c11 := box k1 1 rfl
        have c12 := box k1 2 rfl
        have K1 := Lib.hid k1
        have HR1 := Lib.hid (HR.out.below (HW.out _ hb1))
        clear k1
        go_wp2_with fail
        refine (HT.out _).mono ?_
        rintro e w' ⟨rfl, rfl⟩
        go_wp2
        go_region_held3 (fun w' => w'.cell? ⟨w.heap.size + 1, 1, none⟩ = some (.int .i64 tm) ∧ w'.cell? ⟨w.heap.size + 1, 2, none⟩ = some (.slice s n cap)) (first | exact ⟨c11, c12⟩ | exact ⟨cell_below hb2 rfl c11, cell_below hb2 rfl c12⟩)
          ((refine (copied_any s zs n cap _ hn HZ.out (HR1.out.below ((Below.refl _ _).drew))).mono ?_; rintro e w2 ⟨g, rfl, hg1, hr1, hb2⟩))
        all_goals
          go_wp2
          go_ret3
          have hb3 := (HW.out _ hb1).trans ((((Below.refl _ _).drew).trans hb2).mono (HW.out _ hb1).size)
          exact ⟨.inr ⟨by trivial, g, by simp; rw [IntKind.wrap_i64]; omega, Nat.le_trans (HW.out _ hb1).size hg1, hr1⟩, hb3⟩

end Go.Proofs.Ytkcpmghlndnfbaa
