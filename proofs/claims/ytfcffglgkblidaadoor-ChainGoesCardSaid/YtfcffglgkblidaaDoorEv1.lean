
/-
  The walks of Is and Name, and of the reference's.
-/
import Derived.Test.YtfcffglgkblidaaDoorRows
import Derived.Test.YtfcffglgkblidaaDoorSoft
import Derived.Test.YtfcffglgkblidaaDoorEvPlain
import Derived.Test.YtfcffglgkblidaaDoorWireWalks
namespace Go.Proofs.YtfcffglgkblidaaDoor
open Go.RowKit
set_option linter.unusedVariables false
set_option linter.unusedSimpArgs false

theorem ret_bool {a b : Bool} (h : a = b) : Ending.returned (.bool a) = .returned (.bool b) := by rw [h]
set_option maxHeartbeats 4000000 in set_option maxRecDepth 100000 in
theorem ewithin (x l h : Int) (w : World) : Calls Tryd.prog 55 #[.int .i64 x, .int .i64 l, .int .i64 h] w fun e w' => e = .returned (.bool (decide (l ≤ x ∧ x ≤ h))) ∧ Below w.heap.size w w' := by
  have sh : Hp.Sh w w [] (fun _ => True) := Hp.Sh.start (fun _ _ => trivial)
  by_cases h1 : l ≤ x
  · by_cases h2 : x ≤ h
    · rw [decide_eq_true (⟨h1, h2⟩ : l ≤ x ∧ x ≤ h)]
      go_enter Tryd.func55, Tryd.ntmps55
      go_wp2_with (first
          | ((with_reducible first | refine Hp.wpl_box sh ?_ ?_ | refine Hp.atl_store ?_ ?_); exact rfl; (try (refine Hp.wsB sh ?_)); clear sh; (try clear F); go_simp; (first | intro b w1 sh | intro w1 sh); have F := sh.fx)
          | fail)
      go_ret
      exact ⟨ret_bool (by first | rfl | (simp; done) | (simp; omega)), sh.below⟩
    · rw [decide_eq_false (fun q : l ≤ x ∧ x ≤ h => h2 q.2)]
      go_enter Tryd.func55, Tryd.ntmps55
      go_wp2_with (first
          | ((with_reducible first | refine Hp.wpl_box sh ?_ ?_ | refine Hp.atl_store ?_ ?_); exact rfl; (try (refine Hp.wsB sh ?_)); clear sh; (try clear F); go_simp; (first | intro b w1 sh | intro w1 sh); have F := sh.fx)
          | fail)
      go_ret
      exact ⟨ret_bool (by first | rfl | (simp; done) | (simp; omega)), sh.below⟩
  · rw [decide_eq_false (fun q : l ≤ x ∧ x ≤ h => h1 q.1)]
    go_enter Tryd.func55, Tryd.ntmps55
    go_wp2_with (first
        | ((with_reducible first | refine Hp.wpl_box sh ?_ ?_ | refine Hp.atl_store ?_ ?_); exact rfl; (try (refine Hp.wsB sh ?_)); clear sh; (try clear F); go_simp; (first | intro b w1 sh | intro w1 sh); have F := sh.fx)
        | fail)
    go_ret
    exact ⟨ret_bool (by first | rfl | (simp; done) | (simp; omega)), sh.below⟩

namespace EvP
theorem isB_parts (q t p k a b : Int) : isB (q, t, p, k, a, b) = (decide (1 ≤ k ∧ k ≤ 8) && (decide (0 ≤ t ∧ t ≤ 1099511627776) && (decide (-1 ≤ p ∧ p ≤ 31) && (decide (0 ≤ a ∧ a ≤ 4294967295) && decide (0 ≤ b ∧ b ≤ 4294967295))))) := by
  rw [Bool.eq_iff_iff, isB_iff]
  simp only [Bool.and_eq_true, decide_eq_true_eq]
  omega
end EvP

set_option maxHeartbeats 4000000 in set_option maxRecDepth 100000 in
theorem eis (q t p k a b : Int) (w : World) (hq : 0 ≤ q ∧ q ≤ 18446744073709551615) (ht : -9223372036854775808 ≤ t ∧ t ≤ 9223372036854775807) (hp : -9223372036854775808 ≤ p ∧ p ≤ 9223372036854775807) (hk : -9223372036854775808 ≤ k ∧ k ≤ 9223372036854775807) (ha : -9223372036854775808 ≤ a ∧ a ≤ 9223372036854775807) (hb : -9223372036854775808 ≤ b ∧ b ≤ 9223372036854775807) : Calls Tryd.prog 30 #[.agg #[.int .u64 q, .int .i64 t, .int .i64 p, .int .i64 k, .int .i64 a, .int .i64 b]] w fun e w' => e = .returned (.bool (EvP.isB (q, t, p, k, a, b))) ∧ Below w.heap.size w w' := by
  have sh : Hp.Sh w w [] (fun _ => True) := Hp.Sh.start (fun _ _ => trivial)
  have H1 := Lib.hid (fun W => ewithin k 1 8 W)
  have H2 := Lib.hid (fun W => ewithin t 0 1099511627776 W)
  have H3 := Lib.hid (fun W => ewithin p (-1) 31 W)
  have H4 := Lib.hid (fun W => ewithin a 0 4294967295 W)
  have H5 := Lib.hid (fun W => ewithin b 0 4294967295 W)
  rw [EvP.isB_parts]
  generalize decide (1 ≤ k ∧ k ≤ 8) = u1 at H1 ⊢
  generalize decide (0 ≤ t ∧ t ≤ 1099511627776) = u2 at H2 ⊢
  generalize decide (-1 ≤ p ∧ p ≤ 31) = u3 at H3 ⊢
  generalize decide (0 ≤ a ∧ a ≤ 4294967295) = u4 at H4 ⊢
  generalize decide (0 ≤ b ∧ b ≤ 4294967295) = u5 at H5 ⊢
  cases u1 with
  | false =>
    go_enter Tryd.func30, Tryd.ntmps30
    have tok_bx : True := trivial
    go_wp2_with (first
        | ((with_reducible first | refine Hp.wpl_box sh ?_ ?_ | refine Hp.atl_store ?_ ?_); exact rfl; (try (refine Hp.wsB sh ?_)); clear sh; (try clear F); go_simp; (first | (have tok := tok_bx; clear tok tok_bx; intro bx w1 sh) | intro b w1 sh | intro w1 sh); have F := sh.fx)
        | fail)
    go_fit (H1.out _)
    rintro e w1 ⟨rfl, hb⟩
    replace sh := sh.call hb; clear hb; (try clear F); have F := sh.fx
    go_wp2_with (first
        | ((with_reducible first | refine Hp.wpl_box sh ?_ ?_ | refine Hp.atl_store ?_ ?_); exact rfl; (try (refine Hp.wsB sh ?_)); clear sh; (try clear F); go_simp; (first | intro b w1 sh | intro w1 sh); have F := sh.fx)
        | fail)
    go_ret
    exact ⟨rfl, sh.below⟩
  | true =>
    cases u2 with
    | false =>
      go_enter Tryd.func30, Tryd.ntmps30
      have tok_bx : True := trivial
      go_wp2_with (first
          | ((with_reducible first | refine Hp.wpl_box sh ?_ ?_ | refine Hp.atl_store ?_ ?_); exact rfl; (try (refine Hp.wsB sh ?_)); clear sh; (try clear F); go_simp; (first | (have tok := tok_bx; clear tok tok_bx; intro bx w1 sh) | intro b w1 sh | intro w1 sh); have F := sh.fx)
          | fail)
      go_fit (H1.out _)
      rintro e w1 ⟨rfl, hb⟩
      replace sh := sh.call hb; clear hb; (try clear F); have F := sh.fx
      go_wp2_with (first
          | ((with_reducible first | refine Hp.wpl_box sh ?_ ?_ | refine Hp.atl_store ?_ ?_); exact rfl; (try (refine Hp.wsB sh ?_)); clear sh; (try clear F); go_simp; (first | intro b w1 sh | intro w1 sh); have F := sh.fx)
          | fail)
      go_fit (H2.out _)
      rintro e w1 ⟨rfl, hb⟩
      replace sh := sh.call hb; clear hb; (try clear F); have F := sh.fx
      go_wp2_with (first
          | ((with_reducible first | refine Hp.wpl_box sh ?_ ?_ | refine Hp.atl_store ?_ ?_); exact rfl; (try (refine Hp.wsB sh ?_)); clear sh; (try clear F); go_simp; (first | intro b w1 sh | intro w1 sh); have F := sh.fx)
          | fail)
      go_ret
      exact ⟨rfl, sh.below⟩
    | true =>
      cases u3 with
      | false =>
        go_enter Tryd.func30, Tryd.ntmps30
        have tok_bx : True := trivial
        go_wp2_with (first
            | ((with_reducible first | refine Hp.wpl_box sh ?_ ?_ | refine Hp.atl_store ?_ ?_); exact rfl; (try (refine Hp.wsB sh ?_)); clear sh; (try clear F); go_simp; (first | (have tok := tok_bx; clear tok tok_bx; intro bx w1 sh) | intro b w1 sh | intro w1 sh); have F := sh.fx)
            | fail)
        go_fit (H1.out _)
        rintro e w1 ⟨rfl, hb⟩
        replace sh := sh.call hb; clear hb; (try clear F); have F := sh.fx
        go_wp2_with (first
            | ((with_reducible first | refine Hp.wpl_box sh ?_ ?_ | refine Hp.atl_store ?_ ?_); exact rfl; (try (refine Hp.wsB sh ?_)); clear sh; (try clear F); go_simp; (first | intro b w1 sh | intro w1 sh); have F := sh.fx)
            | fail)
        go_fit (H2.out _)
        rintro e w1 ⟨rfl, hb⟩
        replace sh := sh.call hb; clear hb; (try clear F); have F := sh.fx
        go_wp2_with (first
            | ((with_reducible first | refine Hp.wpl_box sh ?_ ?_ | refine Hp.atl_store ?_ ?_); exact rfl; (try (refine Hp.wsB sh ?_)); clear sh; (try clear F); go_simp; (first | intro b w1 sh | intro w1 sh); have F := sh.fx)
            | fail)
        go_fit (H3.out _)
        rintro e w1 ⟨rfl, hb⟩
        replace sh := sh.call hb; clear hb; (try clear F); have F := sh.fx
        go_wp2_with (first
            | ((with_reducible first | refine Hp.wpl_box sh ?_ ?_ | refine Hp.atl_store ?_ ?_); exact rfl; (try (refine Hp.wsB sh ?_)); clear sh; (try clear F); go_simp; (first | intro b w1 sh | intro w1 sh); have F := sh.fx)
            | fail)
        go_ret
        exact ⟨rfl, sh.below⟩
      | true =>
        cases u4 with
        | false =>
          go_enter Tryd.func30, Tryd.ntmps30
          have tok_bx : True := trivial
          go_wp2_with (first
              | ((with_reducible first | refine Hp.wpl_box sh ?_ ?_ | refine Hp.atl_store ?_ ?_); exact rfl; (try (refine Hp.wsB sh ?_)); clear sh; (try clear F); go_simp; (first | (have tok := tok_bx; clear tok tok_bx; intro bx w1 sh) | intro b w1 sh | intro w1 sh); have F := sh.fx)
              | fail)
          go_fit (H1.out _)
          rintro e w1 ⟨rfl, hb⟩
          replace sh := sh.call hb; clear hb; (try clear F); have F := sh.fx
          go_wp2_with (first
              | ((with_reducible first | refine Hp.wpl_box sh ?_ ?_ | refine Hp.atl_store ?_ ?_); exact rfl; (try (refine Hp.wsB sh ?_)); clear sh; (try clear F); go_simp; (first | intro b w1 sh | intro w1 sh); have F := sh.fx)
              | fail)
          go_fit (H2.out _)
          rintro e w1 ⟨rfl, hb⟩
          replace sh := sh.call hb; clear hb; (try clear F); have F := sh.fx
          go_wp2_with (first
              | ((with_reducible first | refine Hp.wpl_box sh ?_ ?_ | refine Hp.atl_store ?_ ?_); exact rfl; (try (refine Hp.wsB sh ?_)); clear sh; (try clear F); go_simp; (first | intro b w1 sh | intro w1 sh); have F := sh.fx)
              | fail)
          go_fit (H3.out _)
          rintro e w1 ⟨rfl, hb⟩
          replace sh := sh.call hb; clear hb; (try clear F); have F := sh.fx
          go_wp2_with (first
              | ((with_reducible first | refine Hp.wpl_box sh ?_ ?_ | refine Hp.atl_store ?_ ?_); exact rfl; (try (refine Hp.wsB sh ?_)); clear sh; (try clear F); go_simp; (first | intro b w1 sh | intro w1 sh); have F := sh.fx)
              | fail)
          go_fit (H4.out _)
          rintro e w1 ⟨rfl, hb⟩
          replace sh := sh.call hb; clear hb; (try clear F); have F := sh.fx
          go_wp2_with (first
              | ((with_reducible first | refine Hp.wpl_box sh ?_ ?_ | refine Hp.atl_store ?_ ?_); exact rfl; (try (refine Hp.wsB sh ?_)); clear sh; (try clear F); go_simp; (first | intro b w1 sh | intro w1 sh); have F := sh.fx)
              | fail)
          go_ret
          exact ⟨rfl, sh.below⟩
        | true =>
          go_enter Tryd.func30, Tryd.ntmps30
          have tok_bx : True := trivial
          go_wp2_with (first
              | ((with_reducible first | refine Hp.wpl_box sh ?_ ?_ | refine Hp.atl_store ?_ ?_); exact rfl; (try (refine Hp.wsB sh ?_)); clear sh; (try clear F); go_simp; (first | (have tok := tok_bx; clear tok tok_bx; intro bx w1 sh) | intro b w1 sh | intro w1 sh); have F := sh.fx)
              | fail)
          go_fit (H1.out _)
          rintro e w1 ⟨rfl, hb⟩
          replace sh := sh.call hb; clear hb; (try clear F); have F := sh.fx
          go_wp2_with (first
              | ((with_reducible first | refine Hp.wpl_box sh ?_ ?_ | refine Hp.atl_store ?_ ?_); exact rfl; (try (refine Hp.wsB sh ?_)); clear sh; (try clear F); go_simp; (first | intro b w1 sh | intro w1 sh); have F := sh.fx)
              | fail)
          go_fit (H2.out _)
          rintro e w1 ⟨rfl, hb⟩
          replace sh := sh.call hb; clear hb; (try clear F); have F := sh.fx
          go_wp2_with (first
              | ((with_reducible first | refine Hp.wpl_box sh ?_ ?_ | refine Hp.atl_store ?_ ?_); exact rfl; (try (refine Hp.wsB sh ?_)); clear sh; (try clear F); go_simp; (first | intro b w1 sh | intro w1 sh); have F := sh.fx)
              | fail)
          go_fit (H3.out _)
          rintro e w1 ⟨rfl, hb⟩
          replace sh := sh.call hb; clear hb; (try clear F); have F := sh.fx
          go_wp2_with (first
              | ((with_reducible first | refine Hp.wpl_box sh ?_ ?_ | refine Hp.atl_store ?_ ?_); exact rfl; (try (refine Hp.wsB sh ?_)); clear sh; (try clear F); go_simp; (first | intro b w1 sh | intro w1 sh); have F := sh.fx)
              | fail)
          go_fit (H4.out _)
          rintro e w1 ⟨rfl, hb⟩
          replace sh := sh.call hb; clear hb; (try clear F); have F := sh.fx
          go_wp2_with (first
              | ((with_reducible first | refine Hp.wpl_box sh ?_ ?_ | refine Hp.atl_store ?_ ?_); exact rfl; (try (refine Hp.wsB sh ?_)); clear sh; (try clear F); go_simp; (first | intro b w1 sh | intro w1 sh); have F := sh.fx)
              | fail)
          go_fit (H5.out _)
          rintro e w1 ⟨rfl, hb⟩
          replace sh := sh.call hb; clear hb; (try clear F); have F := sh.fx
          go_wp2_with (first
              | ((with_reducible first | refine Hp.wpl_box sh ?_ ?_ | refine Hp.atl_store ?_ ?_); exact rfl; (try (refine Hp.wsB sh ?_)); clear sh; (try clear F); go_simp; (first | intro b w1 sh | intro w1 sh); have F := sh.fx)
              | fail)
          go_ret
          exact ⟨ret_bool (by simp), sh.below⟩

set_option maxHeartbeats 4000000 in set_option maxRecDepth 100000 in
theorem eris (q t p k a b : Int) (w : World) (hq : 0 ≤ q ∧ q ≤ 18446744073709551615) (ht : -9223372036854775808 ≤ t ∧ t ≤ 9223372036854775807) (hp : -9223372036854775808 ≤ p ∧ p ≤ 9223372036854775807) (hk : -9223372036854775808 ≤ k ∧ k ≤ 9223372036854775807) (ha : -9223372036854775808 ≤ a ∧ a ≤ 9223372036854775807) (hb : -9223372036854775808 ≤ b ∧ b ≤ 9223372036854775807) : Calls Tryd.prog 64 #[.agg #[.int .u64 q, .int .i64 t, .int .i64 p, .int .i64 k, .int .i64 a, .int .i64 b]] w fun e w' => e = .returned (.bool (EvP.isB (q, t, p, k, a, b))) ∧ Below w.heap.size w w' := by
  have sh : Hp.Sh w w [] (fun _ => True) := Hp.Sh.start (fun _ _ => trivial)
  go_enter Tryd.func64, Tryd.ntmps64
  have tok_bx : True := trivial
  go_wp2_with (first
      | ((with_reducible first | refine Hp.wpl_box sh ?_ ?_ | refine Hp.atl_store ?_ ?_); exact rfl; (try (refine Hp.wsB sh ?_)); clear sh; (try clear F); go_simp; (first | (have tok := tok_bx; clear tok tok_bx; intro bx w1 sh) | intro b w1 sh | intro w1 sh); have F := sh.fx)
      | fail)
  all_goals go_ret
  all_goals refine ⟨ret_bool ?_, sh.below⟩
  all_goals rw [Bool.eq_iff_iff, EvP.isB_iff]
  all_goals simp
  all_goals omega

namespace EvP
def nameL (k : Int) : List UInt8 := if k = 1 then [98, 111, 111, 116] else if k = 2 then [115, 119, 105, 116, 99, 104] else if k = 3 then [99, 97, 108, 108] else if k = 4 then [109, 111, 118, 101] else if k = 5 then [102, 97, 117, 108, 116] else if k = 6 then [97, 99, 116, 105, 111, 110] else if k = 7 then [103, 97, 112] else if k = 8 then [104, 97, 108, 116] else []
theorem name_cases (k : Int) : (k = 1 ∨ k = 2 ∨ k = 3 ∨ k = 4 ∨ k = 5 ∨ k = 6 ∨ k = 7 ∨ k = 8) ∨ (k < 1 ∨ 8 < k) := by omega
theorem name_no {k : Int} (h : k < 1 ∨ 8 < k) : nameL k = [] := by
  unfold nameL
  rw [if_neg (by omega), if_neg (by omega), if_neg (by omega), if_neg (by omega), if_neg (by omega), if_neg (by omega), if_neg (by omega), if_neg (by omega)]
end EvP

end Go.Proofs.YtfcffglgkblidaaDoor
