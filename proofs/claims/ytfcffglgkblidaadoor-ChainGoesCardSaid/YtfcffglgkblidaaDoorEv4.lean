
/-
  The walks of Get's closures.
-/
import Derived.Test.YtfcffglgkblidaaDoorEv3
namespace Go.Proofs.YtfcffglgkblidaaDoor
open Go.RowKit
set_option linter.unusedVariables false
set_option linter.unusedSimpArgs false

namespace WireP
theorem takeGo_len : ∀ (k i n : Nat) (l : List UInt8), (takeGo k i n l).2.1.length ≤ l.length
  | 0, _, _, _ => by simp [takeGo]
  | _ + 1, _, _, [] => by simp [takeGo]
  | k + 1, i, n, c :: s => by
    simp only [takeGo]
    split
    · split
      · simp
      · split
        · simp
        · simp
    · have := takeGo_len k (i + 1) (n + (c.toNat - 128) * 128 ^ i) s
      simp only [List.length_cons]; omega
theorem takeL_len (l : List UInt8) : (takeL l).2.1.length ≤ l.length := takeGo_len _ _ _ _
theorem takeL_lt (l : List UInt8) : (takeL l).1 < 18446744073709551616 := by
  by_cases h : (takeL l).2.2 = 0
  · exact (takeL_back l (takeL l).2.1 (takeL l).1 (by rw [← h])).2
  · rcases takeGo_err 10 0 0 l with h1 | h1 | h1 | h1
    · exact absurd h1 h
    all_goals (rw [takeL, h1]; decide)
end WireP
namespace EvP
theorem tk_ok' {l : List UInt8} {q : Nat × List UInt8 × Int} (h : WireP.takeL l = q) : tk (l, 0) = q := by unfold tk; rw [if_neg (by simp), h]
theorem tk_len (s : List UInt8 × Int) : (tk s).2.1.length ≤ s.1.length := by
  unfold tk; split
  · exact Nat.le_refl _
  · exact WireP.takeL_len _
theorem tk_lt (s : List UInt8 × Int) : (tk s).1 < 18446744073709551616 := by
  unfold tk; split
  · exact (by decide : 0 < 18446744073709551616)
  · exact WireP.takeL_lt _
theorem st_len (l : List UInt8) : ∀ k, (st l k).2.1.length ≤ l.length
  | 0 => Nat.le_refl _
  | k + 1 => Nat.le_trans (tk_len _) (st_len l k)
theorem nth_lt (l : List UInt8) (k : Nat) : nth l k < 18446744073709551616 := by
  cases k with
  | zero => exact Nat.zero_lt_of_lt (by decide : 0 < 18446744073709551616)
  | succ k => exact tk_lt _
end EvP

/-- The memory behind a number taken: the error's and the rest's variables. -/
def EvP.TakeP (bf br n : Nat) (s : List UInt8 × Int) (w0 : World) (H : List Hp.Blk) (D : World → Prop) (e : Ending) (w' : World) : Prop := e = .returned (.int .u64 (n : Int)) ∧ Hp.Sh w0 w' ((bf, #[.int .i64 s.2], 28) :: (br, #[.string (bstr s.1)], 9) :: H) D
set_option maxHeartbeats 4000000 in set_option maxRecDepth 100000 in
theorem etake (bf br : Nat) (s : List UInt8 × Int) (hs : s.1.length ≤ 40000) {w0 w : World} {H : List Hp.Blk} {D : World → Prop} (sh : Hp.Sh w0 w ((bf, #[.int .i64 s.2], 28) :: (br, #[.string (bstr s.1)], 9) :: H) D) :
    Calls Tryd.prog 89 #[.pointer (some ⟨bf, 0, none⟩), .pointer (some ⟨br, 0, none⟩)] w fun e w' => EvP.TakeP bf br (EvP.tk s).1 (EvP.tk s).2 w0 H D e w' := by
  obtain ⟨l, x⟩ := s
  dsimp only at hs sh
  by_cases he : x = 0
  · subst he
    rcases hq : WireP.takeL l with ⟨n, r, f⟩
    rw [EvP.tk_ok' hq]
    have H1 := fun W => wireTake_any (bstr l) W (by rw [bstr_size]; omega)
    simp only [bstr_data, WireP.takeV_of hq] at H1
    have H2 := Lib.hid H1
    clear H1 hq
    go_enter Tryd.func89, Tryd.ntmps89
    have F := sh.fx
    go_wp2_with (first
        | ((with_reducible first | refine Hp.wpl_box sh ?_ ?_ | refine Hp.atl_store ?_ ?_); exact rfl; (try (refine Hp.wsB sh ?_)); clear sh; (try clear F); go_simp; (first | intro b w1 sh | intro w1 sh); have F := sh.fx)
        | fail)
    go_fit (H2.out _)
    rintro e w1 ⟨rfl, hb⟩
    replace sh := sh.call hb; clear hb; (try clear F); have F := sh.fx
    go_wp2_with (first
        | ((with_reducible first | refine Hp.wpl_box sh ?_ ?_ | refine Hp.atl_store ?_ ?_); exact rfl; (try (refine Hp.wsB sh ?_)); clear sh; (try clear F); go_simp; (first | intro b w1 sh | intro w1 sh); have F := sh.fx)
        | fail)
    go_ret
    exact ⟨rfl, sh⟩
  · have hb : (x != 0) = true := by rw [bne_iff_ne]; exact he
    rw [EvP.tk_err he]
    go_enter Tryd.func89, Tryd.ntmps89
    have F := sh.fx
    go_wp2_with (first
        | ((with_reducible first | refine Hp.wpl_box sh ?_ ?_ | refine Hp.atl_store ?_ ?_); exact rfl; (try (refine Hp.wsB sh ?_)); clear sh; (try clear F); go_simp; (first | intro b w1 sh | intro w1 sh); have F := sh.fx)
        | fail)
    go_ret
    exact ⟨rfl, sh⟩

def EvP.BndP (bq bf br bt : Nat) (g : Bool) (n : Nat) (s : List UInt8 × Int) (w0 : World) (X : Hp.Blk) (H : List Hp.Blk) (D : World → Prop) (e : Ending) (w' : World) : Prop := e = .returned (.int .i64 (EvP.bnd n)) ∧ Hp.Sh w0 w' ((bq, #[.bool (g && decide (n ≤ 1099511627776))], 4) :: (bf, #[.int .i64 s.2], 28) :: (br, #[.string (bstr s.1)], 9) :: X :: (bt, #[.func (.func 89) #[] #[.pointer (some ⟨bf, 0, none⟩), .pointer (some ⟨br, 0, none⟩)]], 95) :: H) D
theorem perm3 {α : Type} (a b c : α) (l : List α) : List.Perm (a :: b :: c :: l) (b :: c :: a :: l) := (List.Perm.swap b a _).trans (List.Perm.cons b (List.Perm.swap c a l))
set_option maxHeartbeats 4000000 in set_option maxRecDepth 100000 in
theorem ebnd (bq bf br bt : Nat) (g : Bool) (s : List UInt8 × Int) (hs : s.1.length ≤ 40000) {w0 w : World} (X : Hp.Blk) {H : List Hp.Blk} {D : World → Prop} (sh : Hp.Sh w0 w ((bq, #[.bool g], 4) :: (bf, #[.int .i64 s.2], 28) :: (br, #[.string (bstr s.1)], 9) :: X :: (bt, #[.func (.func 89) #[] #[.pointer (some ⟨bf, 0, none⟩), .pointer (some ⟨br, 0, none⟩)]], 95) :: H) D) :
    Calls Tryd.prog 90 #[.pointer (some ⟨bt, 0, none⟩), .pointer (some ⟨bq, 0, none⟩)] w fun e w' => EvP.BndP bq bf br bt g (EvP.tk s).1 (EvP.tk s).2 w0 X H D e w' := by
  have hlt := EvP.tk_lt s
  have H1 := Lib.hid (etake bf br s hs (sh.perm (perm3 _ _ _ _)))
  generalize EvP.tk s = q at H1 hlt
  obtain ⟨n, s2⟩ := q
  dsimp only at H1 hlt
  show Calls Tryd.prog 90 _ w fun e w' => EvP.BndP bq bf br bt g n s2 w0 X H D e w'
  by_cases h : n ≤ 1099511627776
  · have e1 : EvP.bnd n = n := EvP.bnd_le h
    have e2 : (g && decide (n ≤ 1099511627776)) = g := by rw [decide_eq_true h]; simp
    have e3 : IntKind.i64.wrap (n : Int) = n := EvP.wrapi (by omega) (by omega)
    obtain ⟨xb, xc, xt⟩ := X
    unfold EvP.BndP
    rw [e1, e2]
    clear e1 e2
    go_enter Tryd.func90, Tryd.ntmps90
    have F := sh.fx
    go_wp2_with (first
        | ((with_reducible first | refine Hp.wpl_box sh ?_ ?_ | refine Hp.atl_store ?_ ?_); exact rfl; (try (refine Hp.wsB sh ?_)); clear sh; (try clear F); go_simp; (first | intro b w1 sh | intro w1 sh); have F := sh.fx)
        | fail)
    go_fit (H1.out)
    clear sh; (try clear F)
    rintro e w1 ⟨rfl, sh⟩
    have F := sh.fx
    replace sh := sh.perm (perm3 _ _ _ _).symm
    have F := sh.fx
    go_wp2_with (first
        | ((with_reducible first | refine Hp.wpl_box sh ?_ ?_ | refine Hp.atl_store ?_ ?_); exact rfl; (try (refine Hp.wsB sh ?_)); clear sh; (try clear F); go_simp; (first | intro b w1 sh | intro w1 sh); have F := sh.fx)
        | fail)
    go_ret
    exact ⟨rfl, sh⟩
  · have e1 : EvP.bnd n = 0 := by unfold EvP.bnd; rw [if_pos (by omega)]
    have e2 : (g && decide (n ≤ 1099511627776)) = false := by rw [decide_eq_false h]; simp
    obtain ⟨xb, xc, xt⟩ := X
    unfold EvP.BndP
    rw [e1, e2]
    clear e1 e2
    go_enter Tryd.func90, Tryd.ntmps90
    have F := sh.fx
    go_wp2_with (first
        | ((with_reducible first | refine Hp.wpl_box sh ?_ ?_ | refine Hp.atl_store ?_ ?_); exact rfl; (try (refine Hp.wsB sh ?_)); clear sh; (try clear F); go_simp; (first | intro b w1 sh | intro w1 sh); have F := sh.fx)
        | fail)
    go_fit (H1.out)
    clear sh; (try clear F)
    rintro e w1 ⟨rfl, sh⟩
    have F := sh.fx
    replace sh := sh.perm (perm3 _ _ _ _).symm
    have F := sh.fx
    go_wp2_with (first
        | ((with_reducible first | refine Hp.wpl_box sh ?_ ?_ | refine Hp.atl_store ?_ ?_); exact rfl; (try (refine Hp.wsB sh ?_)); clear sh; (try clear F); go_simp; (first | intro b w1 sh | intro w1 sh); have F := sh.fx)
        | fail)
    go_ret
    exact ⟨rfl, sh⟩

end Go.Proofs.YtfcffglgkblidaaDoor
