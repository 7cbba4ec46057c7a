
/-
  The walk of ChainSpoilt.
-/
import Derived.Test.YtfcffglgkblidaaDoorChn8
import Derived.Test.YtfcffglgkblidaaDoorChnLen
import Derived.Test.YtfcffglgkblidaaDoorBytLo
namespace Go.Proofs.YtfcffglgkblidaaDoor
open Go.RowKit
set_option linter.unusedVariables false
set_option linter.unusedSimpArgs false
set_option maxHeartbeats 8000000 in
set_option maxRecDepth 100000 in
theorem chainSpoilt_walk (a : List UInt8) (ha : a.length = 32) (s : Option Addr) (n c : Nat) (E : List EvP.Ev) (hn : n = E.length) (hnc : n ≤ c) (hcm : c ≤ maxLen) (hnone : s = none → n = 0 ∧ c = 0) (hE : ∀ x ∈ E, EvP.EvB x) (t : Option Addr) (zn zd : Nat) (Z : List Int) (hz : zn = Z.length) (i j : Int) (hi1 : -9223372036854775808 ≤ i) (hi2 : i ≤ 9223372036854775807) (hj1 : -9223372036854775808 ≤ j) (hj2 : j ≤ 9223372036854775807) (by8 : UInt8) (w : World) (hR : Hp.RdV w s (E.flatMap EvP.evc)) (hZ : Hp.RdV w t (Z.map (Value.int .i64))) (hG : Hp.RdV w (some ⟨0, 0, none⟩) (DigP.wds DigP.consts)) :
    Calls Tryd.prog 8 #[.agg (BatP.bA a), .slice s n c, .slice t zn zd, .int .i64 i, .int .i64 j, .int .u8 (by8.toNat : Int)] w fun e w' => e = .returned (.bool true) ∧ Below w.heap.size w w' := by
  have sh := (Hp.Sh.start ((RdV_rob hR).and ((RdV_rob hZ).and (RdV_rob hG))) : Hp.Sh w w [] (fun W => Hp.RdV W s (E.flatMap EvP.evc) ∧ Hp.RdV W t (Z.map (Value.int .i64)) ∧ Hp.RdV W (some ⟨0, 0, none⟩) (DigP.wds DigP.consts)))
  have KL := Lib.hid (fun W g => clinked W g)
  by_cases c200 : 200 < n
  · have c1I : (200 : Int) < (n : Int) := by omega
    clear hn hnc hcm hnone hE ha hz
    go_enter Tryd.func8, Tryd.ntmps8
    have F := sh.fxb
    have tok_b6 : True := trivial
    go_wp2_with (first
        | ((with_reducible first | refine Hp.wpl_box sh ?_ ?_ | refine Hp.wpa sh ?_ ?_ | refine Hp.atl_store ?_ ?_); exact rfl; (try (refine Hp.wsB sh ?_)); clear sh; (try clear F); go_simp; (first | (have tok := tok_b6; clear tok tok_b6; intro b6 w1 sh) | intro b w1 sh | intro w1 sh); have F := sh.fxb)
        | fail)
    go_fit (KL.out _ sh.data.2.2)
    rintro e w1 ⟨rfl, hb⟩
    replace sh := sh.call hb; clear hb; (try clear F); have F := sh.fxb
    go_wp2_with (first
        | ((with_reducible first | refine Hp.wpl_box sh ?_ ?_ | refine Hp.wpa sh ?_ ?_ | refine Hp.atl_store ?_ ?_); exact rfl; (try (refine Hp.wsB sh ?_)); clear sh; (try clear F); go_simp; (first | intro b w1 sh | intro w1 sh); have F := sh.fxb)
        | fail)
    go_ret
    exact ⟨by first | rfl | simp, sh.below⟩
  have c1I : ¬ (200 : Int) < (n : Int) := by omega
  by_cases c30 : 30 < zn
  · have c2I : (30 : Int) < (zn : Int) := by omega
    clear hn hnc hcm hnone hE ha hz
    go_enter Tryd.func8, Tryd.ntmps8
    have F := sh.fxb
    have tok_b6 : True := trivial
    go_wp2_with (first
        | ((with_reducible first | refine Hp.wpl_box sh ?_ ?_ | refine Hp.wpa sh ?_ ?_ | refine Hp.atl_store ?_ ?_); exact rfl; (try (refine Hp.wsB sh ?_)); clear sh; (try clear F); go_simp; (first | (have tok := tok_b6; clear tok tok_b6; intro b6 w1 sh) | intro b w1 sh | intro w1 sh); have F := sh.fxb)
        | fail)
    go_fit (KL.out _ sh.data.2.2)
    rintro e w1 ⟨rfl, hb⟩
    replace sh := sh.call hb; clear hb; (try clear F); have F := sh.fxb
    go_wp2_with (first
        | ((with_reducible first | refine Hp.wpl_box sh ?_ ?_ | refine Hp.wpa sh ?_ ?_ | refine Hp.atl_store ?_ ?_); exact rfl; (try (refine Hp.wsB sh ?_)); clear sh; (try clear F); go_simp; (first | intro b w1 sh | intro w1 sh); have F := sh.fxb)
        | fail)
    go_ret
    exact ⟨by first | rfl | simp, sh.below⟩
  have c2I : ¬ (30 : Int) < (zn : Int) := by omega
  by_cases n0 : n = 0
  · have n1 : ((n : Int) == 0) = true := by simpa using n0
    have n2 : (n == 0) = true := by simpa using n0
    clear hn hnc hcm hnone hE ha hz n0
    go_enter Tryd.func8, Tryd.ntmps8
    have F := sh.fxb
    have tok_b6 : True := trivial
    go_wp2_with (first
        | ((with_reducible first | refine Hp.wpl_box sh ?_ ?_ | refine Hp.wpa sh ?_ ?_ | refine Hp.atl_store ?_ ?_); exact rfl; (try (refine Hp.wsB sh ?_)); clear sh; (try clear F); go_simp; (first | (have tok := tok_b6; clear tok tok_b6; intro b6 w1 sh) | intro b w1 sh | intro w1 sh); have F := sh.fxb)
        | fail)
    go_fit (KL.out _ sh.data.2.2)
    rintro e w1 ⟨rfl, hb⟩
    replace sh := sh.call hb; clear hb; (try clear F); have F := sh.fxb
    go_wp2_with (first
        | ((with_reducible first | refine Hp.wpl_box sh ?_ ?_ | refine Hp.wpa sh ?_ ?_ | refine Hp.atl_store ?_ ?_); exact rfl; (try (refine Hp.wsB sh ?_)); clear sh; (try clear F); go_simp; (first | intro b w1 sh | intro w1 sh); have F := sh.fxb)
        | fail)
    go_ret
    exact ⟨by first | rfl | simp, sh.below⟩
  have n1 : ((n : Int) == 0) = false := by simpa using n0
  have n2 : (n == 0) = false := by simpa using n0
  have KR := Lib.hid (fun W r => erun s E n c hn hnc (by omega) hE W r)
  obtain ⟨pp, hpp, -⟩ := hR (Hp.flat_pos EvP.evc_len (by decide) (k := 0) (by omega))
  subst hpp
  have hEE : ∀ x ∈ E, 0 ≤ x.1 ∧ x.1 ≤ 18446744073709551615 := fun x hx => (hE x hx).1
  have hfi := ChnP.firstOf_in hEE
  have hne : E ≠ [] := fun h => n0 (by rw [hn, h]; rfl)
  have HC0 := Lib.hid (fun W (q : Hp.RdV W (some pp) (E.flatMap EvP.evc)) => ChnP.first_cell q (by omega))
  have n3 : 0 < n := by omega
  have n4 : (0 : Int) < (n : Int) := by omega
  obtain ⟨f, hf⟩ : ∃ f, ChnP.firstOf E = f := ⟨_, rfl⟩
  rw [hf] at HC0 hfi
  by_cases h63 : 9223372036854775808 < f
  · clear hn hnc hcm hnone hE ha hz hne hEE hfi hf
    go_enter Tryd.func8, Tryd.ntmps8
    have F := sh.fxb; (try clear q0); (try (first | (have q0 := HC0.out _ (sh.data).1) | (have q0 := HC0.out _ (sh.data.2).1) | (have q0 := HC0.out _ (sh.data.2.2).1) | (have q0 := HC0.out _ (sh.data.2.2.2).1) | (have q0 := HC0.out _ (sh.data.2.2.2.2).1)))
    have tok_b6 : True := trivial
    go_wp2_with (first
        | ((with_reducible first | refine Hp.wpl_box sh ?_ ?_ | refine Hp.wpa sh ?_ ?_ | refine Hp.atl_store ?_ ?_); exact rfl; (try (refine Hp.wsB sh ?_)); clear sh; (try clear F); go_simp; (first | (have tok := tok_b6; clear tok tok_b6; intro b6 w1 sh) | intro b w1 sh | intro w1 sh); have F := sh.fxb; (try clear q0); (try (first | (have q0 := HC0.out _ (sh.data).1) | (have q0 := HC0.out _ (sh.data.2).1) | (have q0 := HC0.out _ (sh.data.2.2).1) | (have q0 := HC0.out _ (sh.data.2.2.2).1) | (have q0 := HC0.out _ (sh.data.2.2.2.2).1))))
        | fail)
    go_fit (KL.out _ sh.data.2.2)
    rintro e w1 ⟨rfl, hb⟩
    replace sh := sh.call hb; clear hb; (try clear F); have F := sh.fxb; (try clear q0); (try (first | (have q0 := HC0.out _ (sh.data).1) | (have q0 := HC0.out _ (sh.data.2).1) | (have q0 := HC0.out _ (sh.data.2.2).1) | (have q0 := HC0.out _ (sh.data.2.2.2).1) | (have q0 := HC0.out _ (sh.data.2.2.2.2).1)))
    go_wp2_with (first
        | ((with_reducible first | refine Hp.wpl_box sh ?_ ?_ | refine Hp.wpa sh ?_ ?_ | refine Hp.atl_store ?_ ?_); exact rfl; (try (refine Hp.wsB sh ?_)); clear sh; (try clear F); go_simp; (first | intro b w1 sh | intro w1 sh); have F := sh.fxb; (try clear q0); (try (first | (have q0 := HC0.out _ (sh.data).1) | (have q0 := HC0.out _ (sh.data.2).1) | (have q0 := HC0.out _ (sh.data.2.2).1) | (have q0 := HC0.out _ (sh.data.2.2.2).1) | (have q0 := HC0.out _ (sh.data.2.2.2.2).1))))
        | fail)
    go_ret
    exact ⟨by first | rfl | simp, sh.below⟩
  cases hrun : EvP.runB E with
  | false =>
    rw [hrun] at KR
    clear hn hnc hcm hnone hE ha hrun hz hne hEE hf
    go_enter Tryd.func8, Tryd.ntmps8
    have F := sh.fxb; (try clear q0); (try (first | (have q0 := HC0.out _ (sh.data).1) | (have q0 := HC0.out _ (sh.data.2).1) | (have q0 := HC0.out _ (sh.data.2.2).1) | (have q0 := HC0.out _ (sh.data.2.2.2).1) | (have q0 := HC0.out _ (sh.data.2.2.2.2).1)))
    have tok_b6 : True := trivial
    go_wp2_with (first
        | ((with_reducible first | refine Hp.wpl_box sh ?_ ?_ | refine Hp.wpa sh ?_ ?_ | refine Hp.atl_store ?_ ?_); exact rfl; (try (refine Hp.wsB sh ?_)); clear sh; (try clear F); go_simp; (first | (have tok := tok_b6; clear tok tok_b6; intro b6 w1 sh) | intro b w1 sh | intro w1 sh); have F := sh.fxb; (try clear q0); (try (first | (have q0 := HC0.out _ (sh.data).1) | (have q0 := HC0.out _ (sh.data.2).1) | (have q0 := HC0.out _ (sh.data.2.2).1) | (have q0 := HC0.out _ (sh.data.2.2.2).1) | (have q0 := HC0.out _ (sh.data.2.2.2.2).1))))
        | fail)
    go_fit (KR.out _ sh.data.1)
    rintro e w1 ⟨rfl, hb⟩
    replace sh := sh.call hb; clear hb; (try clear F); have F := sh.fxb; (try clear q0); (try (first | (have q0 := HC0.out _ (sh.data).1) | (have q0 := HC0.out _ (sh.data.2).1) | (have q0 := HC0.out _ (sh.data.2.2).1) | (have q0 := HC0.out _ (sh.data.2.2.2).1) | (have q0 := HC0.out _ (sh.data.2.2.2.2).1)))
    have tok_b6 : True := trivial
    go_wp2_with (first
        | ((with_reducible first | refine Hp.wpl_box sh ?_ ?_ | refine Hp.wpa sh ?_ ?_ | refine Hp.atl_store ?_ ?_); exact rfl; (try (refine Hp.wsB sh ?_)); clear sh; (try clear F); go_simp; (first | (have tok := tok_b6; clear tok tok_b6; intro b6 w1 sh) | intro b w1 sh | intro w1 sh); have F := sh.fxb; (try clear q0); (try (first | (have q0 := HC0.out _ (sh.data).1) | (have q0 := HC0.out _ (sh.data.2).1) | (have q0 := HC0.out _ (sh.data.2.2).1) | (have q0 := HC0.out _ (sh.data.2.2.2).1) | (have q0 := HC0.out _ (sh.data.2.2.2.2).1))))
        | fail)
    go_fit (KL.out _ sh.data.2.2)
    rintro e w1 ⟨rfl, hb⟩
    replace sh := sh.call hb; clear hb; (try clear F); have F := sh.fxb; (try clear q0); (try (first | (have q0 := HC0.out _ (sh.data).1) | (have q0 := HC0.out _ (sh.data.2).1) | (have q0 := HC0.out _ (sh.data.2.2).1) | (have q0 := HC0.out _ (sh.data.2.2.2).1) | (have q0 := HC0.out _ (sh.data.2.2.2.2).1)))
    go_wp2_with (first
        | ((with_reducible first | refine Hp.wpl_box sh ?_ ?_ | refine Hp.wpa sh ?_ ?_ | refine Hp.atl_store ?_ ?_); exact rfl; (try (refine Hp.wsB sh ?_)); clear sh; (try clear F); go_simp; (first | intro b w1 sh | intro w1 sh); have F := sh.fxb; (try clear q0); (try (first | (have q0 := HC0.out _ (sh.data).1) | (have q0 := HC0.out _ (sh.data.2).1) | (have q0 := HC0.out _ (sh.data.2.2).1) | (have q0 := HC0.out _ (sh.data.2.2.2).1) | (have q0 := HC0.out _ (sh.data.2.2.2.2).1))))
        | fail)
    go_ret
    exact ⟨by first | rfl | simp, sh.below⟩
  | true =>
    rw [hrun] at KR
    obtain ⟨K, d, hK, hLk, hL30, hLt⟩ := ChnP.rows_lk Z a (ChnP.firstOf E) E ha hrun hEE (by omega) (fun _ => rfl)
    have KW := Lib.hid (fun W r r2 g => crows a ha (some pp) n c E hn hnc hcm hnone (by omega) hE t zn zd Z hz (by omega) W r r2 g)
    obtain ⟨L, hL⟩ : ∃ L, ChnP.rowsL a E Z = L := ⟨_, rfl⟩
    rw [hL] at KW hLk hL30 hLt
    rw [hf] at hLk
    obtain ⟨r, hr⟩ : ∃ r, r = L.length := ⟨_, rfl⟩
    unfold ChnP.TxP at KW
    rw [← hr] at KW
    have HAL := Lib.hid ha
    have HDL := Lib.hid ha
    have HEL := Lib.hid ha
    by_cases i0 : i < 0
    · clear hn hnc hcm hnone hE ha hrun hz hne hEE hfi hK hLk hL30 hLt hL hr hf
      go_enter Tryd.func8, Tryd.ntmps8
      have F := sh.fxb; (try clear q0); (try (first | (have q0 := HC0.out _ (sh.data).1) | (have q0 := HC0.out _ (sh.data.2).1) | (have q0 := HC0.out _ (sh.data.2.2).1) | (have q0 := HC0.out _ (sh.data.2.2.2).1) | (have q0 := HC0.out _ (sh.data.2.2.2.2).1)))
      have tok_b6 : True := trivial
      go_wp2_with (first
          | ((with_reducible first | refine Hp.wpl_box sh ?_ ?_ | refine Hp.wpa sh ?_ ?_ | refine Hp.atl_store ?_ ?_); exact rfl; (try (refine Hp.wsB sh ?_)); clear sh; (try clear F); go_simp; (first | (have tok := tok_b6; clear tok tok_b6; intro b6 w1 sh) | intro b w1 sh | intro w1 sh); have F := sh.fxb; (try clear q0); (try (first | (have q0 := HC0.out _ (sh.data).1) | (have q0 := HC0.out _ (sh.data.2).1) | (have q0 := HC0.out _ (sh.data.2.2).1) | (have q0 := HC0.out _ (sh.data.2.2.2).1) | (have q0 := HC0.out _ (sh.data.2.2.2.2).1))))
          | fail)
      go_fit (KR.out _ sh.data.1)
      rintro e w1 ⟨rfl, hb⟩
      replace sh := sh.call hb; clear hb; (try clear F); have F := sh.fxb; (try clear q0); (try (first | (have q0 := HC0.out _ (sh.data).1) | (have q0 := HC0.out _ (sh.data.2).1) | (have q0 := HC0.out _ (sh.data.2.2).1) | (have q0 := HC0.out _ (sh.data.2.2.2).1) | (have q0 := HC0.out _ (sh.data.2.2.2.2).1)))
      go_wp2_with (first
          | ((with_reducible refine Hp.at_ld 23 ?_); (first | refine Hp.bld_g 0 sh rfl rfl rfl (by kernel_rfl) (BatP.dg_size HAL.out) ?_ | refine Hp.bld_g 0 sh rfl rfl rfl (by kernel_rfl) (BatP.dg_size HDL.out) ?_ | refine Hp.bld_g 0 sh rfl rfl rfl (by kernel_rfl) (BatP.dg_size HEL.out) ?_ | refine Hp.bld_g 1 sh rfl rfl rfl (by kernel_rfl) (BatP.dg_size HAL.out) ?_ | refine Hp.bld_g 1 sh rfl rfl rfl (by kernel_rfl) (BatP.dg_size HDL.out) ?_ | refine Hp.bld_g 1 sh rfl rfl rfl (by kernel_rfl) (BatP.dg_size HEL.out) ?_ | refine Hp.bld_g 2 sh rfl rfl rfl (by kernel_rfl) (BatP.dg_size HAL.out) ?_ | refine Hp.bld_g 2 sh rfl rfl rfl (by kernel_rfl) (BatP.dg_size HDL.out) ?_ | refine Hp.bld_g 2 sh rfl rfl rfl (by kernel_rfl) (BatP.dg_size HEL.out) ?_); (try simp only [Act.put, Hp.p1, Hp.p2, Hp.p3]))
          | ((with_reducible first | refine Hp.wpl_box sh ?_ ?_ | refine Hp.wpa sh ?_ ?_ | refine Hp.atl_store ?_ ?_); exact rfl; (try (refine Hp.wsB sh ?_)); clear sh; (try clear F); go_simp; (first | intro b w1 sh | intro w1 sh); have F := sh.fxb; (try clear q0); (try (first | (have q0 := HC0.out _ (sh.data).1) | (have q0 := HC0.out _ (sh.data.2).1) | (have q0 := HC0.out _ (sh.data.2.2).1) | (have q0 := HC0.out _ (sh.data.2.2.2).1) | (have q0 := HC0.out _ (sh.data.2.2.2.2).1))))
          | fail)
      go_fit (KW.out _ sh.data.1 sh.data.2.1 sh.data.2.2)
      rintro e w1 ⟨s1, c1, rfl, hn9, hr9, hb9, hc1, hm1, hno1⟩
      replace sh := Hp.gain sh hb9 hn9 hr9
      clear hn9 hr9 hb9
      (try clear F); (have F := sh.fxb)
      have tok_b6 : True := trivial
      go_wp2_with (first
          | ((with_reducible first | refine Hp.wpl_box sh ?_ ?_ | refine Hp.wpa sh ?_ ?_ | refine Hp.atl_store ?_ ?_); exact rfl; (try (refine Hp.wsB sh ?_)); clear sh; (try clear F); go_simp; (first | (have tok := tok_b6; clear tok tok_b6; intro b6 w1 sh) | intro b w1 sh | intro w1 sh); have F := sh.fxb; (try clear q0); (try (first | (have q0 := HC0.out _ (sh.data).1) | (have q0 := HC0.out _ (sh.data.2).1) | (have q0 := HC0.out _ (sh.data.2.2).1) | (have q0 := HC0.out _ (sh.data.2.2.2).1) | (have q0 := HC0.out _ (sh.data.2.2.2.2).1))))
          | fail)
      go_fit (KL.out _ sh.data.2.2.2)
      rintro e w1 ⟨rfl, hb⟩
      replace sh := sh.call hb; clear hb; (try clear F); have F := sh.fxb; (try clear q0); (try (first | (have q0 := HC0.out _ (sh.data).1) | (have q0 := HC0.out _ (sh.data.2).1) | (have q0 := HC0.out _ (sh.data.2.2).1) | (have q0 := HC0.out _ (sh.data.2.2.2).1) | (have q0 := HC0.out _ (sh.data.2.2.2.2).1)))
      go_wp2_with (first
          | ((with_reducible first | refine Hp.wpl_box sh ?_ ?_ | refine Hp.wpa sh ?_ ?_ | refine Hp.atl_store ?_ ?_); exact rfl; (try (refine Hp.wsB sh ?_)); clear sh; (try clear F); go_simp; (first | intro b w1 sh | intro w1 sh); have F := sh.fxb; (try clear q0); (try (first | (have q0 := HC0.out _ (sh.data).1) | (have q0 := HC0.out _ (sh.data.2).1) | (have q0 := HC0.out _ (sh.data.2.2).1) | (have q0 := HC0.out _ (sh.data.2.2.2).1) | (have q0 := HC0.out _ (sh.data.2.2.2.2).1))))
          | fail)
      go_ret
      exact ⟨by first | rfl | simp, sh.below⟩
    by_cases j0 : j < 0
    · clear hn hnc hcm hnone hE ha hrun hz hne hEE hfi hK hLk hL30 hLt hL hr hf
      go_enter Tryd.func8, Tryd.ntmps8
      have F := sh.fxb; (try clear q0); (try (first | (have q0 := HC0.out _ (sh.data).1) | (have q0 := HC0.out _ (sh.data.2).1) | (have q0 := HC0.out _ (sh.data.2.2).1) | (have q0 := HC0.out _ (sh.data.2.2.2).1) | (have q0 := HC0.out _ (sh.data.2.2.2.2).1)))
      have tok_b6 : True := trivial
      go_wp2_with (first
          | ((with_reducible first | refine Hp.wpl_box sh ?_ ?_ | refine Hp.wpa sh ?_ ?_ | refine Hp.atl_store ?_ ?_); exact rfl; (try (refine Hp.wsB sh ?_)); clear sh; (try clear F); go_simp; (first | (have tok := tok_b6; clear tok tok_b6; intro b6 w1 sh) | intro b w1 sh | intro w1 sh); have F := sh.fxb; (try clear q0); (try (first | (have q0 := HC0.out _ (sh.data).1) | (have q0 := HC0.out _ (sh.data.2).1) | (have q0 := HC0.out _ (sh.data.2.2).1) | (have q0 := HC0.out _ (sh.data.2.2.2).1) | (have q0 := HC0.out _ (sh.data.2.2.2.2).1))))
          | fail)
      go_fit (KR.out _ sh.data.1)
      rintro e w1 ⟨rfl, hb⟩
      replace sh := sh.call hb; clear hb; (try clear F); have F := sh.fxb; (try clear q0); (try (first | (have q0 := HC0.out _ (sh.data).1) | (have q0 := HC0.out _ (sh.data.2).1) | (have q0 := HC0.out _ (sh.data.2.2).1) | (have q0 := HC0.out _ (sh.data.2.2.2).1) | (have q0 := HC0.out _ (sh.data.2.2.2.2).1)))
      go_wp2_with (first
          | ((with_reducible refine Hp.at_ld 23 ?_); (first | refine Hp.bld_g 0 sh rfl rfl rfl (by kernel_rfl) (BatP.dg_size HAL.out) ?_ | refine Hp.bld_g 0 sh rfl rfl rfl (by kernel_rfl) (BatP.dg_size HDL.out) ?_ | refine Hp.bld_g 0 sh rfl rfl rfl (by kernel_rfl) (BatP.dg_size HEL.out) ?_ | refine Hp.bld_g 1 sh rfl rfl rfl (by kernel_rfl) (BatP.dg_size HAL.out) ?_ | refine Hp.bld_g 1 sh rfl rfl rfl (by kernel_rfl) (BatP.dg_size HDL.out) ?_ | refine Hp.bld_g 1 sh rfl rfl rfl (by kernel_rfl) (BatP.dg_size HEL.out) ?_ | refine Hp.bld_g 2 sh rfl rfl rfl (by kernel_rfl) (BatP.dg_size HAL.out) ?_ | refine Hp.bld_g 2 sh rfl rfl rfl (by kernel_rfl) (BatP.dg_size HDL.out) ?_ | refine Hp.bld_g 2 sh rfl rfl rfl (by kernel_rfl) (BatP.dg_size HEL.out) ?_); (try simp only [Act.put, Hp.p1, Hp.p2, Hp.p3]))
          | ((with_reducible first | refine Hp.wpl_box sh ?_ ?_ | refine Hp.wpa sh ?_ ?_ | refine Hp.atl_store ?_ ?_); exact rfl; (try (refine Hp.wsB sh ?_)); clear sh; (try clear F); go_simp; (first | intro b w1 sh | intro w1 sh); have F := sh.fxb; (try clear q0); (try (first | (have q0 := HC0.out _ (sh.data).1) | (have q0 := HC0.out _ (sh.data.2).1) | (have q0 := HC0.out _ (sh.data.2.2).1) | (have q0 := HC0.out _ (sh.data.2.2.2).1) | (have q0 := HC0.out _ (sh.data.2.2.2.2).1))))
          | fail)
      go_fit (KW.out _ sh.data.1 sh.data.2.1 sh.data.2.2)
      rintro e w1 ⟨s1, c1, rfl, hn9, hr9, hb9, hc1, hm1, hno1⟩
      replace sh := Hp.gain sh hb9 hn9 hr9
      clear hn9 hr9 hb9
      (try clear F); (have F := sh.fxb)
      have tok_b6 : True := trivial
      go_wp2_with (first
          | ((with_reducible first | refine Hp.wpl_box sh ?_ ?_ | refine Hp.wpa sh ?_ ?_ | refine Hp.atl_store ?_ ?_); exact rfl; (try (refine Hp.wsB sh ?_)); clear sh; (try clear F); go_simp; (first | (have tok := tok_b6; clear tok tok_b6; intro b6 w1 sh) | intro b w1 sh | intro w1 sh); have F := sh.fxb; (try clear q0); (try (first | (have q0 := HC0.out _ (sh.data).1) | (have q0 := HC0.out _ (sh.data.2).1) | (have q0 := HC0.out _ (sh.data.2.2).1) | (have q0 := HC0.out _ (sh.data.2.2.2).1) | (have q0 := HC0.out _ (sh.data.2.2.2.2).1))))
          | fail)
      go_fit (KL.out _ sh.data.2.2.2)
      rintro e w1 ⟨rfl, hb⟩
      replace sh := sh.call hb; clear hb; (try clear F); have F := sh.fxb; (try clear q0); (try (first | (have q0 := HC0.out _ (sh.data).1) | (have q0 := HC0.out _ (sh.data.2).1) | (have q0 := HC0.out _ (sh.data.2.2).1) | (have q0 := HC0.out _ (sh.data.2.2.2).1) | (have q0 := HC0.out _ (sh.data.2.2.2.2).1)))
      go_wp2_with (first
          | ((with_reducible first | refine Hp.wpl_box sh ?_ ?_ | refine Hp.wpa sh ?_ ?_ | refine Hp.atl_store ?_ ?_); exact rfl; (try (refine Hp.wsB sh ?_)); clear sh; (try clear F); go_simp; (first | intro b w1 sh | intro w1 sh); have F := sh.fxb; (try clear q0); (try (first | (have q0 := HC0.out _ (sh.data).1) | (have q0 := HC0.out _ (sh.data.2).1) | (have q0 := HC0.out _ (sh.data.2.2).1) | (have q0 := HC0.out _ (sh.data.2.2.2).1) | (have q0 := HC0.out _ (sh.data.2.2.2.2).1))))
          | fail)
      go_ret
      exact ⟨by first | rfl | simp, sh.below⟩
    obtain ⟨iN, rfl⟩ : ∃ iN : Nat, i = iN := ⟨i.toNat, by omega⟩
    obtain ⟨jN, rfl⟩ : ∃ jN : Nat, j = jN := ⟨j.toNat, by omega⟩
    by_cases ir : r ≤ iN
    · have irI : (r : Int) ≤ (iN : Int) := by omega
      clear hn hnc hcm hnone hE ha hrun hz hne hEE hfi hK hLk hL30 hLt hL hr hf
      go_enter Tryd.func8, Tryd.ntmps8
      have F := sh.fxb; (try clear q0); (try (first | (have q0 := HC0.out _ (sh.data).1) | (have q0 := HC0.out _ (sh.data.2).1) | (have q0 := HC0.out _ (sh.data.2.2).1) | (have q0 := HC0.out _ (sh.data.2.2.2).1) | (have q0 := HC0.out _ (sh.data.2.2.2.2).1)))
      have tok_b6 : True := trivial
      go_wp2_with (first
          | ((with_reducible first | refine Hp.wpl_box sh ?_ ?_ | refine Hp.wpa sh ?_ ?_ | refine Hp.atl_store ?_ ?_); exact rfl; (try (refine Hp.wsB sh ?_)); clear sh; (try clear F); go_simp; (first | (have tok := tok_b6; clear tok tok_b6; intro b6 w1 sh) | intro b w1 sh | intro w1 sh); have F := sh.fxb; (try clear q0); (try (first | (have q0 := HC0.out _ (sh.data).1) | (have q0 := HC0.out _ (sh.data.2).1) | (have q0 := HC0.out _ (sh.data.2.2).1) | (have q0 := HC0.out _ (sh.data.2.2.2).1) | (have q0 := HC0.out _ (sh.data.2.2.2.2).1))))
          | fail)
      go_fit (KR.out _ sh.data.1)
      rintro e w1 ⟨rfl, hb⟩
      replace sh := sh.call hb; clear hb; (try clear F); have F := sh.fxb; (try clear q0); (try (first | (have q0 := HC0.out _ (sh.data).1) | (have q0 := HC0.out _ (sh.data.2).1) | (have q0 := HC0.out _ (sh.data.2.2).1) | (have q0 := HC0.out _ (sh.data.2.2.2).1) | (have q0 := HC0.out _ (sh.data.2.2.2.2).1)))
      go_wp2_with (first
          | ((with_reducible refine Hp.at_ld 23 ?_); (first | refine Hp.bld_g 0 sh rfl rfl rfl (by kernel_rfl) (BatP.dg_size HAL.out) ?_ | refine Hp.bld_g 0 sh rfl rfl rfl (by kernel_rfl) (BatP.dg_size HDL.out) ?_ | refine Hp.bld_g 0 sh rfl rfl rfl (by kernel_rfl) (BatP.dg_size HEL.out) ?_ | refine Hp.bld_g 1 sh rfl rfl rfl (by kernel_rfl) (BatP.dg_size HAL.out) ?_ | refine Hp.bld_g 1 sh rfl rfl rfl (by kernel_rfl) (BatP.dg_size HDL.out) ?_ | refine Hp.bld_g 1 sh rfl rfl rfl (by kernel_rfl) (BatP.dg_size HEL.out) ?_ | refine Hp.bld_g 2 sh rfl rfl rfl (by kernel_rfl) (BatP.dg_size HAL.out) ?_ | refine Hp.bld_g 2 sh rfl rfl rfl (by kernel_rfl) (BatP.dg_size HDL.out) ?_ | refine Hp.bld_g 2 sh rfl rfl rfl (by kernel_rfl) (BatP.dg_size HEL.out) ?_); (try simp only [Act.put, Hp.p1, Hp.p2, Hp.p3]))
          | ((with_reducible first | refine Hp.wpl_box sh ?_ ?_ | refine Hp.wpa sh ?_ ?_ | refine Hp.atl_store ?_ ?_); exact rfl; (try (refine Hp.wsB sh ?_)); clear sh; (try clear F); go_simp; (first | intro b w1 sh | intro w1 sh); have F := sh.fxb; (try clear q0); (try (first | (have q0 := HC0.out _ (sh.data).1) | (have q0 := HC0.out _ (sh.data.2).1) | (have q0 := HC0.out _ (sh.data.2.2).1) | (have q0 := HC0.out _ (sh.data.2.2.2).1) | (have q0 := HC0.out _ (sh.data.2.2.2.2).1))))
          | fail)
      go_fit (KW.out _ sh.data.1 sh.data.2.1 sh.data.2.2)
      rintro e w1 ⟨s1, c1, rfl, hn9, hr9, hb9, hc1, hm1, hno1⟩
      replace sh := Hp.gain sh hb9 hn9 hr9
      clear hn9 hr9 hb9
      (try clear F); (have F := sh.fxb)
      have tok_b6 : True := trivial
      go_wp2_with (first
          | ((with_reducible first | refine Hp.wpl_box sh ?_ ?_ | refine Hp.wpa sh ?_ ?_ | refine Hp.atl_store ?_ ?_); exact rfl; (try (refine Hp.wsB sh ?_)); clear sh; (try clear F); go_simp; (first | (have tok := tok_b6; clear tok tok_b6; intro b6 w1 sh) | intro b w1 sh | intro w1 sh); have F := sh.fxb; (try clear q0); (try (first | (have q0 := HC0.out _ (sh.data).1) | (have q0 := HC0.out _ (sh.data.2).1) | (have q0 := HC0.out _ (sh.data.2.2).1) | (have q0 := HC0.out _ (sh.data.2.2.2).1) | (have q0 := HC0.out _ (sh.data.2.2.2.2).1))))
          | fail)
      go_fit (KL.out _ sh.data.2.2.2)
      rintro e w1 ⟨rfl, hb⟩
      replace sh := sh.call hb; clear hb; (try clear F); have F := sh.fxb; (try clear q0); (try (first | (have q0 := HC0.out _ (sh.data).1) | (have q0 := HC0.out _ (sh.data.2).1) | (have q0 := HC0.out _ (sh.data.2.2).1) | (have q0 := HC0.out _ (sh.data.2.2.2).1) | (have q0 := HC0.out _ (sh.data.2.2.2.2).1)))
      go_wp2_with (first
          | ((with_reducible first | refine Hp.wpl_box sh ?_ ?_ | refine Hp.wpa sh ?_ ?_ | refine Hp.atl_store ?_ ?_); exact rfl; (try (refine Hp.wsB sh ?_)); clear sh; (try clear F); go_simp; (first | intro b w1 sh | intro w1 sh); have F := sh.fxb; (try clear q0); (try (first | (have q0 := HC0.out _ (sh.data).1) | (have q0 := HC0.out _ (sh.data.2).1) | (have q0 := HC0.out _ (sh.data.2.2).1) | (have q0 := HC0.out _ (sh.data.2.2.2).1) | (have q0 := HC0.out _ (sh.data.2.2.2.2).1))))
          | fail)
      go_ret
      exact ⟨by first | rfl | simp, sh.below⟩
    have irI : ¬ (r : Int) ≤ (iN : Int) := by omega
    by_cases jr : r ≤ jN
    · have jrI : (r : Int) ≤ (jN : Int) := by omega
      clear hn hnc hcm hnone hE ha hrun hz hne hEE hfi hK hLk hL30 hLt hL hr hf
      go_enter Tryd.func8, Tryd.ntmps8
      have F := sh.fxb; (try clear q0); (try (first | (have q0 := HC0.out _ (sh.data).1) | (have q0 := HC0.out _ (sh.data.2).1) | (have q0 := HC0.out _ (sh.data.2.2).1) | (have q0 := HC0.out _ (sh.data.2.2.2).1) | (have q0 := HC0.out _ (sh.data.2.2.2.2).1)))
      have tok_b6 : True := trivial
      go_wp2_with (first
          | ((with_reducible first | refine Hp.wpl_box sh ?_ ?_ | refine Hp.wpa sh ?_ ?_ | refine Hp.atl_store ?_ ?_); exact rfl; (try (refine Hp.wsB sh ?_)); clear sh; (try clear F); go_simp; (first | (have tok := tok_b6; clear tok tok_b6; intro b6 w1 sh) | intro b w1 sh | intro w1 sh); have F := sh.fxb; (try clear q0); (try (first | (have q0 := HC0.out _ (sh.data).1) | (have q0 := HC0.out _ (sh.data.2).1) | (have q0 := HC0.out _ (sh.data.2.2).1) | (have q0 := HC0.out _ (sh.data.2.2.2).1) | (have q0 := HC0.out _ (sh.data.2.2.2.2).1))))
          | fail)
      go_fit (KR.out _ sh.data.1)
      rintro e w1 ⟨rfl, hb⟩
      replace sh := sh.call hb; clear hb; (try clear F); have F := sh.fxb; (try clear q0); (try (first | (have q0 := HC0.out _ (sh.data).1) | (have q0 := HC0.out _ (sh.data.2).1) | (have q0 := HC0.out _ (sh.data.2.2).1) | (have q0 := HC0.out _ (sh.data.2.2.2).1) | (have q0 := HC0.out _ (sh.data.2.2.2.2).1)))
      go_wp2_with (first
          | ((with_reducible refine Hp.at_ld 23 ?_); (first | refine Hp.bld_g 0 sh rfl rfl rfl (by kernel_rfl) (BatP.dg_size HAL.out) ?_ | refine Hp.bld_g 0 sh rfl rfl rfl (by kernel_rfl) (BatP.dg_size HDL.out) ?_ | refine Hp.bld_g 0 sh rfl rfl rfl (by kernel_rfl) (BatP.dg_size HEL.out) ?_ | refine Hp.bld_g 1 sh rfl rfl rfl (by kernel_rfl) (BatP.dg_size HAL.out) ?_ | refine Hp.bld_g 1 sh rfl rfl rfl (by kernel_rfl) (BatP.dg_size HDL.out) ?_ | refine Hp.bld_g 1 sh rfl rfl rfl (by kernel_rfl) (BatP.dg_size HEL.out) ?_ | refine Hp.bld_g 2 sh rfl rfl rfl (by kernel_rfl) (BatP.dg_size HAL.out) ?_ | refine Hp.bld_g 2 sh rfl rfl rfl (by kernel_rfl) (BatP.dg_size HDL.out) ?_ | refine Hp.bld_g 2 sh rfl rfl rfl (by kernel_rfl) (BatP.dg_size HEL.out) ?_); (try simp only [Act.put, Hp.p1, Hp.p2, Hp.p3]))
          | ((with_reducible first | refine Hp.wpl_box sh ?_ ?_ | refine Hp.wpa sh ?_ ?_ | refine Hp.atl_store ?_ ?_); exact rfl; (try (refine Hp.wsB sh ?_)); clear sh; (try clear F); go_simp; (first | intro b w1 sh | intro w1 sh); have F := sh.fxb; (try clear q0); (try (first | (have q0 := HC0.out _ (sh.data).1) | (have q0 := HC0.out _ (sh.data.2).1) | (have q0 := HC0.out _ (sh.data.2.2).1) | (have q0 := HC0.out _ (sh.data.2.2.2).1) | (have q0 := HC0.out _ (sh.data.2.2.2.2).1))))
          | fail)
      go_fit (KW.out _ sh.data.1 sh.data.2.1 sh.data.2.2)
      rintro e w1 ⟨s1, c1, rfl, hn9, hr9, hb9, hc1, hm1, hno1⟩
      replace sh := Hp.gain sh hb9 hn9 hr9
      clear hn9 hr9 hb9
      (try clear F); (have F := sh.fxb)
      have tok_b6 : True := trivial
      go_wp2_with (first
          | ((with_reducible first | refine Hp.wpl_box sh ?_ ?_ | refine Hp.wpa sh ?_ ?_ | refine Hp.atl_store ?_ ?_); exact rfl; (try (refine Hp.wsB sh ?_)); clear sh; (try clear F); go_simp; (first | (have tok := tok_b6; clear tok tok_b6; intro b6 w1 sh) | intro b w1 sh | intro w1 sh); have F := sh.fxb; (try clear q0); (try (first | (have q0 := HC0.out _ (sh.data).1) | (have q0 := HC0.out _ (sh.data.2).1) | (have q0 := HC0.out _ (sh.data.2.2).1) | (have q0 := HC0.out _ (sh.data.2.2.2).1) | (have q0 := HC0.out _ (sh.data.2.2.2.2).1))))
          | fail)
      go_fit (KL.out _ sh.data.2.2.2)
      rintro e w1 ⟨rfl, hb⟩
      replace sh := sh.call hb; clear hb; (try clear F); have F := sh.fxb; (try clear q0); (try (first | (have q0 := HC0.out _ (sh.data).1) | (have q0 := HC0.out _ (sh.data.2).1) | (have q0 := HC0.out _ (sh.data.2.2).1) | (have q0 := HC0.out _ (sh.data.2.2.2).1) | (have q0 := HC0.out _ (sh.data.2.2.2.2).1)))
      go_wp2_with (first
          | ((with_reducible first | refine Hp.wpl_box sh ?_ ?_ | refine Hp.wpa sh ?_ ?_ | refine Hp.atl_store ?_ ?_); exact rfl; (try (refine Hp.wsB sh ?_)); clear sh; (try clear F); go_simp; (first | intro b w1 sh | intro w1 sh); have F := sh.fxb; (try clear q0); (try (first | (have q0 := HC0.out _ (sh.data).1) | (have q0 := HC0.out _ (sh.data.2).1) | (have q0 := HC0.out _ (sh.data.2.2).1) | (have q0 := HC0.out _ (sh.data.2.2.2).1) | (have q0 := HC0.out _ (sh.data.2.2.2.2).1))))
          | fail)
      go_ret
      exact ⟨by first | rfl | simp, sh.below⟩
    have jrI : ¬ (r : Int) ≤ (jN : Int) := by omega
    have hir : iN < r := by omega
    have hjr : jN < r := by omega
    have hirI : (iN : Int) < (r : Int) := by omega
    have hjrI : (jN : Int) < (r : Int) := by omega
    have hfi' : 0 ≤ f ∧ f < 18446744073709551616 := by omega
    have hd32 : d.length = 32 := by
      have h1 := ChnP.chk_len L a f [] ha
      rw [ChnP.lk_chk _ _ _ _ _ _ hLk] at h1
      exact h1
    have hLt4 : ∀ x ∈ L, x.length ≤ 40000 := fun x hx => by have := hLt x hx; omega
    have K20 := Lib.hid (fun s1 c1 W q g => ccheck a ha f hfi s1 r c1 L hr (by omega) hLt4 W q g)
    rw [ChnP.lk_chk _ _ _ _ _ _ hLk, List.nil_append] at K20
    unfold ChnP.ChkP at K20
    have hKl : (E.take K).length = K := by rw [List.length_take]; omega
    dsimp only at K20
    rw [hKl] at K20
    obtain ⟨xi, hxi⟩ : ∃ x, L[iN]'(by omega) = x := ⟨_, rfl⟩
    obtain ⟨xj, hxj⟩ : ∃ x, L[jN]'(by omega) = x := ⟨_, rfl⟩
    have HXI := Lib.hid (show xi.length ≤ 40000 by rw [← hxi]; exact hLt4 _ (List.getElem_mem _))
    have HXJ := Lib.hid (show xj.length ≤ 40000 by rw [← hxj]; exact hLt4 _ (List.getElem_mem _))
    have HCI0 := Lib.hid (fun W pt (q : Hp.RdV W (some pt) (L.map ChnP.txc)) => ChnP.tx_cell q (by omega) hxi)
    have HCJ0 := Lib.hid (fun W pt (q : Hp.RdV W (some pt) (L.map ChnP.txc)) => ChnP.tx_cell q (by omega) hxj)
    have HLP := Lib.hid (fun (s1 : Option Addr) W (q : Hp.RdV W s1 (L.map ChnP.txc)) => (show ∃ pt, s1 = some pt by
      obtain ⟨pt, hpt, -⟩ := q (by rw [List.length_map]; omega)
      exact ⟨pt, hpt⟩))
    have hr30 : r ≤ 30 := by omega
    clear HDL HEL
    have HDL := Lib.hid hd32
    have HDG := Lib.hid (show d.length = BatP.zeros.length from hd32)
    have HA := Lib.hid ha
    have HFI := Lib.hid hfi
    have HLK := Lib.hid hLk
    have HLL := Lib.hid hr.symm
    have HLT := Lib.hid hLt4
    have HEL := HDL
    have HR0 := Lib.hid (Hp.RowIs.nil 9 1)
    clear hE ha hrun hne hEE hf hfi' hLk hL30 hLt hLt4 hL hr hd32 hKl hxi hxj hn hnone hz hK
    go_enter Tryd.func8, Tryd.ntmps8
    have F := sh.fxb; (try clear q0); (try (first | (have q0 := HC0.out _ (sh.data).1) | (have q0 := HC0.out _ (sh.data.2).1) | (have q0 := HC0.out _ (sh.data.2.2).1) | (have q0 := HC0.out _ (sh.data.2.2.2).1) | (have q0 := HC0.out _ (sh.data.2.2.2.2).1)))
    have tok_b6 : True := trivial
    go_wp2_with (first
        | ((with_reducible first | refine Hp.wpl_box sh ?_ ?_ | refine Hp.wpa sh ?_ ?_ | refine Hp.atl_store ?_ ?_); exact rfl; (try (refine Hp.wsB sh ?_)); clear sh; (try clear F); go_simp; (first | (have tok := tok_b6; clear tok tok_b6; intro b6 w1 sh) | intro b w1 sh | intro w1 sh); have F := sh.fxb; (try clear q0); (try (first | (have q0 := HC0.out _ (sh.data).1) | (have q0 := HC0.out _ (sh.data.2).1) | (have q0 := HC0.out _ (sh.data.2.2).1) | (have q0 := HC0.out _ (sh.data.2.2.2).1) | (have q0 := HC0.out _ (sh.data.2.2.2.2).1))))
        | fail)
    go_fit (KR.out _ sh.data.1)
    rintro e w1 ⟨rfl, hb⟩
    replace sh := sh.call hb; clear hb; (try clear F); have F := sh.fxb; (try clear q0); (try (first | (have q0 := HC0.out _ (sh.data).1) | (have q0 := HC0.out _ (sh.data.2).1) | (have q0 := HC0.out _ (sh.data.2.2).1) | (have q0 := HC0.out _ (sh.data.2.2.2).1) | (have q0 := HC0.out _ (sh.data.2.2.2.2).1)))
    go_wp2_with (first
        | ((with_reducible refine Hp.at_ld 23 ?_); (first | refine Hp.bld_g 0 sh rfl rfl rfl (by kernel_rfl) (BatP.dg_size HAL.out) ?_ | refine Hp.bld_g 0 sh rfl rfl rfl (by kernel_rfl) (BatP.dg_size HDL.out) ?_ | refine Hp.bld_g 0 sh rfl rfl rfl (by kernel_rfl) (BatP.dg_size HEL.out) ?_ | refine Hp.bld_g 1 sh rfl rfl rfl (by kernel_rfl) (BatP.dg_size HAL.out) ?_ | refine Hp.bld_g 1 sh rfl rfl rfl (by kernel_rfl) (BatP.dg_size HDL.out) ?_ | refine Hp.bld_g 1 sh rfl rfl rfl (by kernel_rfl) (BatP.dg_size HEL.out) ?_ | refine Hp.bld_g 2 sh rfl rfl rfl (by kernel_rfl) (BatP.dg_size HAL.out) ?_ | refine Hp.bld_g 2 sh rfl rfl rfl (by kernel_rfl) (BatP.dg_size HDL.out) ?_ | refine Hp.bld_g 2 sh rfl rfl rfl (by kernel_rfl) (BatP.dg_size HEL.out) ?_); (try simp only [Act.put, Hp.p1, Hp.p2, Hp.p3]))
        | ((with_reducible first | refine Hp.wpl_box sh ?_ ?_ | refine Hp.wpa sh ?_ ?_ | refine Hp.atl_store ?_ ?_); exact rfl; (try (refine Hp.wsB sh ?_)); clear sh; (try clear F); go_simp; (first | intro b w1 sh | intro w1 sh); have F := sh.fxb; (try clear q0); (try (first | (have q0 := HC0.out _ (sh.data).1) | (have q0 := HC0.out _ (sh.data.2).1) | (have q0 := HC0.out _ (sh.data.2.2).1) | (have q0 := HC0.out _ (sh.data.2.2.2).1) | (have q0 := HC0.out _ (sh.data.2.2.2.2).1))))
        | fail)
    go_fit (KW.out _ sh.data.1 sh.data.2.1 sh.data.2.2)
    rintro e w1 ⟨s1, c1, rfl, hn9, hr9, hb9, hc1, hm1, hno1⟩
    replace sh := Hp.gain sh hb9 hn9 hr9
    clear hn9 hr9 hb9
    (try clear F); (have F := sh.fxb)
    obtain ⟨pt, rfl⟩ := HLP.out _ _ sh.data.1
    have HCI := Lib.hid (HCI0.out · pt)
    have HCJ := Lib.hid (HCJ0.out · pt)
    clear HCI0 HCJ0 HLP
    (try clear q0)
    go_wp2_with (first
        | ((with_reducible first | refine Hp.wpl_box sh ?_ ?_ | refine Hp.wpa sh ?_ ?_ | refine Hp.atl_store ?_ ?_); exact rfl; (try (refine Hp.wsB sh ?_)); clear sh; (try clear F); go_simp; (first | intro b w1 sh | intro w1 sh); have F := sh.fxb)
        | fail)
    go_loopw [14, 15] (fun v qv wr => ∃ (q : Nat) (R : List Hp.Blk) (M : List (List UInt8)), qv = .int .i64 q ∧ q ≤ r ∧ Hid (Hp.RowIs 9 1 v q (M.map ChnP.txc) R ∧ M.length = q ∧ ∀ x ∈ M, x.length ≤ 40000) ∧ Hp.Sh w wr ((b6, BatP.bA a, 23) :: R) (fun W => Hp.RdV W (some pt) (L.map ChnP.txc) ∧ Hp.RdV W (some pp) (E.flatMap EvP.evc) ∧ Hp.RdV W t (Z.map (Value.int .i64)) ∧ Hp.RdV W (some ⟨0, 0, none⟩) (DigP.wds DigP.consts))) (fun _ qv _ => r - (intOf qv).toNat)
    case atStart => exact ⟨0, [], [], rfl, by omega, Lib.hid ⟨HR0.out, rfl, fun x hx => by cases hx⟩, sh⟩
    case round =>
      clear sh F HR0
      obtain ⟨q, R, M, rfl, hq, HH, sh⟩ := hrel
      have HR := Lib.hid HH.out.1
      have HML := Lib.hid HH.out.2.1
      have HMT := Lib.hid HH.out.2.2
      clear HH
      obtain ⟨s4, c4, rfl, hs4, hrc4, hm4⟩ := HR.out.slice
      by_cases hlt : q < r
      · have hlI : (q : Int) < (r : Int) := by omega
        have z9 : IntKind.i64.wrap ((q : Int) + 1) = (q : Int) + 1 := by rw [IntWalk.i64_in _ (by omega)]
        have hqL : q < L.length := by rw [HLL.out]; exact hlt
        obtain ⟨x0, hx0⟩ : ∃ x, L[q] = x := ⟨_, rfl⟩
        have q0 := ChnP.tx_cell sh.data.1 hqL hx0
        have q1 := HCJ.out _ sh.data.1
        have q2 := HCI.out _ sh.data.1
        have HX0 := Lib.hid (show x0.length ≤ 40000 by rw [← hx0]; exact HLT.out _ (List.getElem_mem _))
        clear hx0 hqL
        by_cases e1 : q = iN
        · have e1a : ((q : Int) == (iN : Int)) = true := by simp; omega
          have e1b : (q == iN) = true := by simp; omega
          by_cases e2 : iN = jN
          · have e2a : ((iN : Int) == (jN : Int)) = true := by simp; omega
            have e2b : (iN == jN) = true := by simp; omega
            obtain ⟨Lx, hLx⟩ : ∃ k, xj.length = k := ⟨_, rfl⟩
            have hsz : (bstr xj).size = Lx := by rw [bstr_size, hLx]
            by_cases e3 : 0 < Lx
            · have e3I : (0 : Int) < (Lx : Int) := by omega
              obtain ⟨x, hx⟩ : ∃ x, by8.toNat % Lx = x := ⟨_, rfl⟩
              have hxL : x < Lx := by rw [← hx]; exact Nat.mod_lt _ e3
              have hxI : (x : Int) < (Lx : Int) := by omega
              have zr : (by8.toNat : Int).tmod (Lx : Int) = (x : Int) := by rw [← hx]; rfl
              have zw : IntKind.i64.wrap (by8.toNat : Int) = (by8.toNat : Int) := by rw [IntWalk.i64_in _ (by have := by8.toNat_lt; omega)]
              obtain ⟨y8, hy8⟩ : ∃ y, by8 ||| 1 = y := ⟨_, rfl⟩
              have zo : bits .or .u8 (by8.toNat : Int) 1 = (y8.toNat : Int) := by rw [← hy8]; exact BatP.bor8 by8 1
              have zL : ((Lx : Int) == 0) = false := by simp; omega
              have zL2 : ¬ (Lx : Int) = 0 := by omega
              have zL3 : ¬ Lx = 0 := by omega
              clear hx hy8 e1 e2
              have F := sh.fxb
              have SH0 := Lib.hid sh
              clear sh
              go_wp2_with (first
                  | ((with_reducible refine at_conv ?_); (refine wpl_bytes_lo (Hp.Sh.start (fun _ _ => trivial) : Hp.Sh wr wr [] (fun _ => True)) rfl _ 9 51 5 rfl Tryd.underlying9 Tryd.underlying51 Tryd.underlying5 xj rfl ?_); (try clear F); intro w1 g sp cap hg9 hlo shg hcap; have HLO := Lib.hid hlo; have HBL := Lib.hid shg.below; clear hlo shg; (have F : True := trivial); rw [hLx]; go_simp)
                  | ((with_reducible first | refine Hp.wpl_box sh ?_ ?_ | refine Hp.wpa sh ?_ ?_ | refine Hp.atl_store ?_ ?_); exact rfl; (try (refine Hp.wsB sh ?_)); clear sh; (try clear F); go_simp; (first | intro b w1 sh | intro w1 sh); have F := sh.fxb)
                  | fail)
              have hxs : x < (xj ++ sp).length := by rw [List.length_append]; omega
              have hcell := HLO.out.cell hxs
              rw [BatP.getD_left (by omega)] at hcell
              have hfz := HLO.out.free hxs
              obtain ⟨c9, hc9⟩ : ∃ c, xj.getD x 0 = c := ⟨_, rfl⟩
              rw [hc9] at hcell
              have HX8 := Lib.hid (BatP.bxor8 c9 y8)
              have HTU := Lib.hid (show (xj ++ sp).set x (c9 ^^^ y8) = xj.set x (c9 ^^^ y8) ++ sp by rw [List.set_append_left _ _ (by omega)])
              clear hxs hc9
              go_still_tail 18, (by kernel_rfl)
              have hcell2 : w1.drew.cell? ⟨g, x, none⟩ = some (.int .u8 (c9.toNat : Int)) := hcell
              have hfz2 : w1.drew.frozen? ⟨g, x, none⟩ = false := hfz
              have hlo2 : BatP.Lo 5 g (xj ++ sp) w1.drew := HLO.out
              have hb2 : Below wr.heap.size wr w1.drew := HBL.out.drew
              change wpList _ _ _ _ _ w1.drew
              clear hcell hfz HLO HBL
              generalize w1.drew = w2 at hcell2 hfz2 hlo2 hb2 ⊢
              have HK2 := Lib.hid (And.intro hlo2 hb2)
              clear hlo2 hb2
              obtain ⟨Y, hY⟩ : ∃ Y, xj.set x (c9 ^^^ y8) = Y := ⟨_, rfl⟩
              rw [hY] at HTU
              have hYl : Y.length = Lx := by rw [← hY, List.length_set, hLx]
              have HYL := Lib.hid (show Y.length ≤ 40000 by rw [← hY, List.length_set]; exact HXJ.out)
              have hlo3 : BatP.Lo 5 g (Y ++ sp) (w2.setCell ⟨g, x, none⟩ (.int .u8 (bits .xor .u8 (c9.toNat : Int) (y8.toNat : Int)))) := by rw [← HTU.out]; exact HK2.out.1.set' _ HX8.out
              have sh := SH0.out.call (HK2.out.2.setCell (p := ⟨g, x, none⟩) hg9 (.int .u8 (bits .xor .u8 (c9.toNat : Int) (y8.toNat : Int))))
              have hcv : (convert 51 9 (.slice (some ⟨g, 0, none⟩) Lx cap)).run Tryd.prog (w2.setCell ⟨g, x, none⟩ (.int .u8 (bits .xor .u8 (c9.toNat : Int) (y8.toNat : Int)))) = .ok (.string (bstr Y)) (w2.setCell ⟨g, x, none⟩ (.int .u8 (bits .xor .u8 (c9.toNat : Int) (y8.toNat : Int)))) := by
                have h9 := run_convert_bytes_back (P := Tryd.prog) (w2.setCell ⟨g, x, none⟩ (.int .u8 (bits .xor .u8 (c9.toNat : Int) (y8.toNat : Int)))) 51 9 5 ⟨g, 0, none⟩ cap Y Tryd.underlying51 Tryd.underlying5 Tryd.underlying9 (fun i hi => by
                  rw [Hp.add_head, hlo3.cell (by rw [List.length_append]; omega), BatP.getD_left hi, List.getD_eq_getElem?_getD, List.getElem?_eq_getElem hi]; rfl)
                rw [hYl] at h9
                exact h9
              clear hlo3 hY hYl HTU HX8 HK2 SH0 hLx
              go_wp2_with (first
                  | ((with_reducible refine Hp.atl_lit ?_ ?_); exact rfl; (refine Hp.wp_lit 1 [.string (bstr Y)] Tryd.i_str Tryd.underlying34 sh rfl rfl (by omega) rfl ?_); clear sh; (try clear F); intro bl w1 sh; replace sh := sh.freeze1 (vs := [.string (bstr Y)]) (fun i v h => by simpa using h); (have F := sh.fxb); (try simp only [Act.put, Hp.p1, Hp.p2, Hp.p3]))
                  | ((with_reducible refine Hp.atl_append 135 ?_ ?_); exact rfl; (refine Hp.wp_append (R := R) (H := [_]) (news := [.string (bstr Y)]) Tryd.i_str Tryd.underlying34 (by decide) rfl (by decide) (Hp.Sh.front (A := [_]) sh) HR.out rfl rfl rfl sh.data.1 (fun h => by cases h) (Hp.ones_mem rfl) (by omega) ?_); clear sh; (try clear F); intro v9 R9 w1 sh hr; rw [ChnP.tx_snoc] at hr; have HR9 := Lib.hid hr; clear hr; replace sh : Hp.Sh w _ ([_] ++ R9) _ := sh.perm List.perm_append_comm; simp only [List.cons_append, List.nil_append] at sh; (have F := sh.fxb); go_simp)
                  | ((with_reducible first | refine Hp.wpl_box sh ?_ ?_ | refine Hp.wpa sh ?_ ?_ | refine Hp.atl_store ?_ ?_); exact rfl; (try (refine Hp.wsB sh ?_)); clear sh; (try clear F); go_simp; (first | intro b w1 sh | intro w1 sh); have F := sh.fxb)
                  | fail)
              go_roundw
              case rel => exact ⟨q + 1, R9, M ++ [Y], by go_num, by omega, Lib.hid ⟨HR9.out, by rw [List.length_append, HML.out]; rfl, fun x hx => (List.mem_append.1 hx).elim (HMT.out x) (fun h => by rw [List.mem_singleton.1 h]; exact HYL.out)⟩, sh.imp (fun W h => h.2)⟩
              case measure => simp [intOf]; omega
            · have e3I : ¬ (0 : Int) < (Lx : Int) := by omega
              clear e1 e2 hLx
              have F := sh.fxb
              go_wp2_with (first
                  | ((with_reducible refine Hp.atl_lit ?_ ?_); exact rfl; (refine Hp.wp_lit 1 [.string (bstr xj)] Tryd.i_str Tryd.underlying34 sh rfl rfl (by omega) rfl ?_); clear sh; (try clear F); intro bl w1 sh; replace sh := sh.freeze1 (vs := [.string (bstr xj)]) (fun i v h => by simpa using h); (have F := sh.fxb); (try simp only [Act.put, Hp.p1, Hp.p2, Hp.p3]))
                  | ((with_reducible refine Hp.atl_append 135 ?_ ?_); exact rfl; (refine Hp.wp_append (R := R) (H := [_]) (news := [.string (bstr xj)]) Tryd.i_str Tryd.underlying34 (by decide) rfl (by decide) (Hp.Sh.front (A := [_]) sh) HR.out rfl rfl rfl sh.data.1 (fun h => by cases h) (Hp.ones_mem rfl) (by omega) ?_); clear sh; (try clear F); intro v9 R9 w1 sh hr; rw [ChnP.tx_snoc] at hr; have HR9 := Lib.hid hr; clear hr; replace sh : Hp.Sh w _ ([_] ++ R9) _ := sh.perm List.perm_append_comm; simp only [List.cons_append, List.nil_append] at sh; (have F := sh.fxb); go_simp)
                  | ((with_reducible first | refine Hp.wpl_box sh ?_ ?_ | refine Hp.wpa sh ?_ ?_ | refine Hp.atl_store ?_ ?_); exact rfl; (try (refine Hp.wsB sh ?_)); clear sh; (try clear F); go_simp; (first | intro b w1 sh | intro w1 sh); have F := sh.fxb)
                  | fail)
              go_roundw
              case rel => exact ⟨q + 1, R9, M ++ [xj], by go_num, by omega, Lib.hid ⟨HR9.out, by rw [List.length_append, HML.out]; rfl, fun x hx => (List.mem_append.1 hx).elim (HMT.out x) (fun h => by rw [List.mem_singleton.1 h]; exact HXJ.out)⟩, sh.imp (fun W h => h.2)⟩
              case measure => simp [intOf]; omega
          · have e2a : ((iN : Int) == (jN : Int)) = false := by simp; omega
            have e2b : (iN == jN) = false := by simp; omega
            clear e1 e2
            have F := sh.fxb
            go_wp2_with (first
                | ((with_reducible refine Hp.atl_lit ?_ ?_); exact rfl; (refine Hp.wp_lit 1 [.string (bstr xj)] Tryd.i_str Tryd.underlying34 sh rfl rfl (by omega) rfl ?_); clear sh; (try clear F); intro bl w1 sh; replace sh := sh.freeze1 (vs := [.string (bstr xj)]) (fun i v h => by simpa using h); (have F := sh.fxb); (try simp only [Act.put, Hp.p1, Hp.p2, Hp.p3]))
                | ((with_reducible refine Hp.atl_append 135 ?_ ?_); exact rfl; (refine Hp.wp_append (R := R) (H := [_]) (news := [.string (bstr xj)]) Tryd.i_str Tryd.underlying34 (by decide) rfl (by decide) (Hp.Sh.front (A := [_]) sh) HR.out rfl rfl rfl sh.data.1 (fun h => by cases h) (Hp.ones_mem rfl) (by omega) ?_); clear sh; (try clear F); intro v9 R9 w1 sh hr; rw [ChnP.tx_snoc] at hr; have HR9 := Lib.hid hr; clear hr; replace sh : Hp.Sh w _ ([_] ++ R9) _ := sh.perm List.perm_append_comm; simp only [List.cons_append, List.nil_append] at sh; (have F := sh.fxb); go_simp)
                | ((with_reducible first | refine Hp.wpl_box sh ?_ ?_ | refine Hp.wpa sh ?_ ?_ | refine Hp.atl_store ?_ ?_); exact rfl; (try (refine Hp.wsB sh ?_)); clear sh; (try clear F); go_simp; (first | intro b w1 sh | intro w1 sh); have F := sh.fxb)
                | fail)
            go_roundw
            case rel => exact ⟨q + 1, R9, M ++ [xj], by go_num, by omega, Lib.hid ⟨HR9.out, by rw [List.length_append, HML.out]; rfl, fun x hx => (List.mem_append.1 hx).elim (HMT.out x) (fun h => by rw [List.mem_singleton.1 h]; exact HXJ.out)⟩, sh.imp (fun W h => h.2)⟩
            case measure => simp [intOf]; omega
        · have e1a : ((q : Int) == (iN : Int)) = false := by simp; omega
          have e1b : (q == iN) = false := by simp; omega
          by_cases e4 : q = jN
          · have e4a : ((q : Int) == (jN : Int)) = true := by simp; omega
            have e4b : (q == jN) = true := by simp; omega
            have e2a : ((iN : Int) == (jN : Int)) = false := by simp; omega
            have e2b : (iN == jN) = false := by simp; omega
            clear e1 e4
            have F := sh.fxb
            go_wp2_with (first
                | ((with_reducible refine Hp.atl_lit ?_ ?_); exact rfl; (refine Hp.wp_lit 1 [.string (bstr xi)] Tryd.i_str Tryd.underlying34 sh rfl rfl (by omega) rfl ?_); clear sh; (try clear F); intro bl w1 sh; replace sh := sh.freeze1 (vs := [.string (bstr xi)]) (fun i v h => by simpa using h); (have F := sh.fxb); (try simp only [Act.put, Hp.p1, Hp.p2, Hp.p3]))
                | ((with_reducible refine Hp.atl_append 135 ?_ ?_); exact rfl; (refine Hp.wp_append (R := R) (H := [_]) (news := [.string (bstr xi)]) Tryd.i_str Tryd.underlying34 (by decide) rfl (by decide) (Hp.Sh.front (A := [_]) sh) HR.out rfl rfl rfl sh.data.1 (fun h => by cases h) (Hp.ones_mem rfl) (by omega) ?_); clear sh; (try clear F); intro v9 R9 w1 sh hr; rw [ChnP.tx_snoc] at hr; have HR9 := Lib.hid hr; clear hr; replace sh : Hp.Sh w _ ([_] ++ R9) _ := sh.perm List.perm_append_comm; simp only [List.cons_append, List.nil_append] at sh; (have F := sh.fxb); go_simp)
                | ((with_reducible first | refine Hp.wpl_box sh ?_ ?_ | refine Hp.wpa sh ?_ ?_ | refine Hp.atl_store ?_ ?_); exact rfl; (try (refine Hp.wsB sh ?_)); clear sh; (try clear F); go_simp; (first | intro b w1 sh | intro w1 sh); have F := sh.fxb)
                | fail)
            go_roundw
            case rel => exact ⟨q + 1, R9, M ++ [xi], by go_num, by omega, Lib.hid ⟨HR9.out, by rw [List.length_append, HML.out]; rfl, fun x hx => (List.mem_append.1 hx).elim (HMT.out x) (fun h => by rw [List.mem_singleton.1 h]; exact HXI.out)⟩, sh.imp (fun W h => h.2)⟩
            case measure => simp [intOf]; omega
          · have e4a : ((q : Int) == (jN : Int)) = false := by simp; omega
            have e4b : (q == jN) = false := by simp; omega
            by_cases e2 : iN = jN
            · have e2a : ((iN : Int) == (jN : Int)) = true := by simp; omega
              have e2b : (iN == jN) = true := by simp; omega
              clear e1 e2 e4
              have F := sh.fxb
              go_wp2_with (first
                  | ((with_reducible refine Hp.atl_lit ?_ ?_); exact rfl; (refine Hp.wp_lit 1 [.string (bstr x0)] Tryd.i_str Tryd.underlying34 sh rfl rfl (by omega) rfl ?_); clear sh; (try clear F); intro bl w1 sh; replace sh := sh.freeze1 (vs := [.string (bstr x0)]) (fun i v h => by simpa using h); (have F := sh.fxb); (try simp only [Act.put, Hp.p1, Hp.p2, Hp.p3]))
                  | ((with_reducible refine Hp.atl_append 135 ?_ ?_); exact rfl; (refine Hp.wp_append (R := R) (H := [_]) (news := [.string (bstr x0)]) Tryd.i_str Tryd.underlying34 (by decide) rfl (by decide) (Hp.Sh.front (A := [_]) sh) HR.out rfl rfl rfl sh.data.1 (fun h => by cases h) (Hp.ones_mem rfl) (by omega) ?_); clear sh; (try clear F); intro v9 R9 w1 sh hr; rw [ChnP.tx_snoc] at hr; have HR9 := Lib.hid hr; clear hr; replace sh : Hp.Sh w _ ([_] ++ R9) _ := sh.perm List.perm_append_comm; simp only [List.cons_append, List.nil_append] at sh; (have F := sh.fxb); go_simp)
                  | ((with_reducible first | refine Hp.wpl_box sh ?_ ?_ | refine Hp.wpa sh ?_ ?_ | refine Hp.atl_store ?_ ?_); exact rfl; (try (refine Hp.wsB sh ?_)); clear sh; (try clear F); go_simp; (first | intro b w1 sh | intro w1 sh); have F := sh.fxb)
                  | fail)
              go_roundw
              case rel => exact ⟨q + 1, R9, M ++ [x0], by go_num, by omega, Lib.hid ⟨HR9.out, by rw [List.length_append, HML.out]; rfl, fun x hx => (List.mem_append.1 hx).elim (HMT.out x) (fun h => by rw [List.mem_singleton.1 h]; exact HX0.out)⟩, sh.imp (fun W h => h.2)⟩
              case measure => simp [intOf]; omega
            · have e2a : ((iN : Int) == (jN : Int)) = false := by simp; omega
              have e2b : (iN == jN) = false := by simp; omega
              clear e1 e2 e4
              have F := sh.fxb
              go_wp2_with (first
                  | ((with_reducible refine Hp.atl_lit ?_ ?_); exact rfl; (refine Hp.wp_lit 1 [.string (bstr x0)] Tryd.i_str Tryd.underlying34 sh rfl rfl (by omega) rfl ?_); clear sh; (try clear F); intro bl w1 sh; replace sh := sh.freeze1 (vs := [.string (bstr x0)]) (fun i v h => by simpa using h); (have F := sh.fxb); (try simp only [Act.put, Hp.p1, Hp.p2, Hp.p3]))
                  | ((with_reducible refine Hp.atl_append 135 ?_ ?_); exact rfl; (refine Hp.wp_append (R := R) (H := [_]) (news := [.string (bstr x0)]) Tryd.i_str Tryd.underlying34 (by decide) rfl (by decide) (Hp.Sh.front (A := [_]) sh) HR.out rfl rfl rfl sh.data.1 (fun h => by cases h) (Hp.ones_mem rfl) (by omega) ?_); clear sh; (try clear F); intro v9 R9 w1 sh hr; rw [ChnP.tx_snoc] at hr; have HR9 := Lib.hid hr; clear hr; replace sh : Hp.Sh w _ ([_] ++ R9) _ := sh.perm List.perm_append_comm; simp only [List.cons_append, List.nil_append] at sh; (have F := sh.fxb); go_simp)
                  | ((with_reducible first | refine Hp.wpl_box sh ?_ ?_ | refine Hp.wpa sh ?_ ?_ | refine Hp.atl_store ?_ ?_); exact rfl; (try (refine Hp.wsB sh ?_)); clear sh; (try clear F); go_simp; (first | intro b w1 sh | intro w1 sh); have F := sh.fxb)
                  | fail)
              go_roundw
              case rel => exact ⟨q + 1, R9, M ++ [x0], by go_num, by omega, Lib.hid ⟨HR9.out, by rw [List.length_append, HML.out]; rfl, fun x hx => (List.mem_append.1 hx).elim (HMT.out x) (fun h => by rw [List.mem_singleton.1 h]; exact HX0.out)⟩, sh.imp (fun W h => h.2)⟩
              case measure => simp [intOf]; omega
      · obtain rfl : q = r := by omega
        have hlI : ¬ (q : Int) < (q : Int) := by omega
        replace sh := (Hp.Sh.freeze (Hp.Sh.front (A := [_]) sh) HR.out)
        have K21 := Lib.hid (fun s4 c4 W q1 g => ccheck a HA.out f HFI.out s4 q c4 M HML.out.symm (by omega) HMT.out W q1 g)
        have h32 := ChnP.chk_len M a f [] HA.out
        have KC := Lib.hid (fun s4 c1 c4 W q1 q2 g => cclash (some pt) s4 q q c1 c4 L M HLL.out.symm HML.out.symm (by omega) (by omega) HLT.out HMT.out W q1 q2 g)
        have KS := Lib.hid (fun s4 c1 c4 W q1 q2 => rsame (some pt) s4 q q c1 c4 L M HLL.out.symm HML.out.symm (by omega) (by omega) W q1 q2)
        rcases hY : ChnP.chk a f M [] with ⟨⟨U, e⟩, es⟩
        rw [hY] at K21 h32
        unfold ChnP.ChkP at K21
        obtain ⟨u, hu⟩ : ∃ m, m = U.length := ⟨_, rfl⟩
        dsimp only at K21 h32
        rw [← hu] at K21
        have HEL := Lib.hid h32
        have HEG := Lib.hid (show e.length = BatP.zeros.length from h32)
        have HD := bdeq d e HDL.out h32
        have HY := Lib.hid hY
        clear h32 hY hu
        have F := sh.fxb
        go_wp2_with (first
            | ((with_reducible first | refine Hp.wpl_box sh ?_ ?_ | refine Hp.wpa sh ?_ ?_ | refine Hp.atl_store ?_ ?_); exact rfl; (try (refine Hp.wsB sh ?_)); clear sh; (try clear F); go_simp; (first | intro b w1 sh | intro w1 sh); have F := sh.fxb)
            | fail)
        go_upto_region 20 with (fail)
        go_cut [18, 19, 20] from 18 to 149 (fun t18 t19 t20 wx => ∃ (b19 : Nat) (s5 : Option Addr) (c5 : Nat), t18 = .slice s5 K c5 ∧ t19 = .pointer (some ⟨b19, 0, none⟩) ∧ t20 = .int .i64 0 ∧ Hp.Sh w wx [(b19, BatP.bA d, 23), (b6, BatP.bA a, 23)] (fun W => Hp.RdV W s5 ((E.take K).flatMap EvP.evc) ∧ Hp.RdV W s4 (M.map ChnP.txc) ∧ Hp.RdV W (some pt) (L.map ChnP.txc) ∧ Hp.RdV W (some pp) (E.flatMap EvP.evc) ∧ Hp.RdV W t (Z.map (Value.int .i64)) ∧ Hp.RdV W (some ⟨0, 0, none⟩) (DigP.wds DigP.consts)))
        case first =>
          refine Hp.region_soft (by kernel_rfl) sh (fun _ q => q) ?_; clear sh; (try clear F)
          (try simp only [Hp.p2, Hp.p3])
          (refine Hp.tk (i := 0) (oi := ⟨some 140, Op.load 23 (Operand.tmp 6), _, _, _, none⟩) _ (fun _ q => q) (fun W hW => (Hp.bexec_load 0 hW rfl rfl (by kernel_rfl) (BatP.dg_size HAL.out))) ?_)
          (refine Hp.tks (i := 1) (oi := ⟨some 141, Op.move (Operand.tmp 1), _, _, _, none⟩) (fun _ q => q) ?_)
          (refine Hp.tks (i := 2) (oi := ⟨some 142, Op.indexAddr 24 (Operand.tmp 141) (Operand.const (Value.int IntKind.i64 0)), _, _, _, none⟩) (fun _ q => q) ?_)
          (refine Hp.tks (i := 3) (oi := ⟨some 143, Op.fieldAddr 47 (Operand.tmp 142) 0, _, _, _, none⟩) (fun _ q => q) ?_)
          (refine Hp.tk (i := 4) (oi := ⟨some 144, Op.load 25 (Operand.tmp 143), _, _, _, none⟩) _ (fun _ q => q) (fun W hW => by (have F := Hp.Sh.facts hW); (have hd := Hp.Sh.data hW); (try simp only [Hp.Facts, Hp.CellsAt, BatP.cellsAt_bt, Nat.reduceAdd, Hp.c1, Hp.c2] at F); have hcf := HC0.out _ hd.2.2.1; go_simp; (try with_reducible rfl)) ?_)
          (refine Hp.tks (i := 5) (oi := ⟨some 145, Op.move (Operand.tmp 13), _, _, _, none⟩) (fun _ q => q) ?_)
          refine Hp.soft_two (i := 6) (j := 11) (by kernel_rfl) ?_ ?_
          · refine Hp.soft_step (o := ⟨some 146, Op.call { callee := Callee.value (Operand.func 14), args := #[Operand.tmp 140, Operand.tmp 144, Operand.tmp 145], argTypes := #[23, 25, 34] }, _, _, _, none⟩) rfl (by rfl) (fun w1 sh K hK => ?_); (try clear F); (try have F := Hp.Sh.facts sh); (try simp only [Hp.Facts, Hp.CellsAt, BatP.cellsAt_bt, Nat.reduceAdd, Hp.c1, Hp.c2] at F); (go_simp; go_fit (K20.out _ _ _ sh.data.2.1 sh.data.2.2.2.2); rintro e w1 ⟨s5, c5, rfl, hn9, hr9, hb9, hc9, hm9, -⟩; replace sh := Hp.gain sh hb9 hn9 hr9; clear hn9 hr9 hb9); refine hK _ _ _ _ _ _ (fun _ q => q) (fun _ q => q.imp fun W h => h.2) sh ?_; clear hK K; clear sh; (try clear F); (try simp only [Act.put, Hp.p1, Hp.p2, Hp.p3])
            (refine Hp.tks (i := 7) (oi := ⟨some 139, Op.move (Operand.tmp 146), _, _, _, none⟩) (fun _ q => q) ?_)
            (refine Hp.tks (i := 8) (oi := ⟨some 147, Op.extract (Operand.tmp 139) 0, _, _, _, none⟩) (fun _ q => q) ?_)
            (refine Hp.tks (i := 9) (oi := ⟨some 148, Op.extract (Operand.tmp 139) 1, _, _, _, none⟩) (fun _ q => q) ?_)
            (refine Hp.tks (i := 10) (oi := ⟨some 149, Op.extract (Operand.tmp 139) 2, _, _, _, none⟩) (fun _ q => q) ?_)
            refine Hp.soft_make (i := 11) (o := ⟨some 19, Op.alloc 23, _, _, _, none⟩) (by kernel_rfl) rfl (by rfl) (fun w1 sh K hK => ?_); (try clear F); (try have F := Hp.Sh.facts sh); (try simp only [Hp.Facts, Hp.CellsAt, BatP.cellsAt_bt, Nat.reduceAdd, Hp.c1, Hp.c2] at F); (refine Hp.wp_alloc Tryd.z_dg sh ?_; clear sh; (try clear F); go_simp; intro b19 w1 sh; (have F := sh.fxb)); refine hK _ _ _ _ _ _ (fun _ q => (Hp.Sh.drop1 q)) (fun _ q => q) sh ?_; clear hK K; clear sh; (try clear F); (try simp only [Act.put, Hp.p1, Hp.p2, Hp.p3])
            (refine Hp.tks (i := 12) (oi := ⟨some 18, Op.assign (Operand.tmp 147), _, _, _, none⟩) (fun _ q => (Hp.Sh.drop1 q)) ?_)
            refine Hp.soft_make (i := 13) (o := ⟨none, Op.store 23 (Operand.tmp 19) (Operand.tmp 148), _, _, _, none⟩) (by kernel_rfl) rfl (by rfl) (fun w1 sh K hK => ?_); (try clear F); (try have F := Hp.Sh.facts sh); (try simp only [Hp.Facts, Hp.CellsAt, BatP.cellsAt_bt, Nat.reduceAdd, Hp.c1, Hp.c2] at F); (refine Hp.bst_arr 0 sh rfl rfl rfl HDG.out (by kernel_rfl) ?_; clear sh; (try clear F); go_simp; intro w1 sh; (have F := sh.fxb)); refine hK _ _ _ _ _ _ (fun _ q => (Hp.Sh.drop1 q)) (fun _ q => q) sh ?_; clear hK K; clear sh; (try clear F); (try simp only [Act.put, Hp.p1, Hp.p2, Hp.p3])
            (refine Hp.tks (i := 14) (oi := ⟨some 20, Op.assign (Operand.tmp 149), _, _, _, none⟩) (fun _ q => (Hp.Sh.drop1 q)) ?_)
            refine Hp.soft_done (by kernel_rfl) (fun w1 sh => ?_) _; (try clear F); (try have F := Hp.Sh.facts sh); (try simp only [Hp.Facts, Hp.CellsAt, BatP.cellsAt_bt, Nat.reduceAdd, Hp.c1, Hp.c2] at F)
            (go_wp2_with fail; go_meet; (case rel => exact ⟨b19, s5, c5, rfl, rfl, rfl, sh⟩))
          · refine Hp.soft_step (o := ⟨some 19, Op.alloc 23, _, _, _, none⟩) rfl (by rfl) (fun w1 sh K hK => ?_); (try clear F); (try have F := Hp.Sh.facts sh); (try simp only [Hp.Facts, Hp.CellsAt, BatP.cellsAt_bt, Nat.reduceAdd, Hp.c1, Hp.c2] at F); (refine Hp.wp_alloc Tryd.z_dg sh ?_; clear sh; (try clear F); go_simp; intro b19 w1 sh; (have F := sh.fxb)); refine hK _ _ _ _ _ _ (fun _ q => (Hp.Sh.drop1 q)) (fun _ q => q) sh ?_; clear hK K; clear sh; (try clear F); (try simp only [Act.put, Hp.p1, Hp.p2, Hp.p3])
            refine Hp.soft_make (i := 6) (o := ⟨some 146, Op.call { callee := Callee.value (Operand.func 14), args := #[Operand.tmp 140, Operand.tmp 144, Operand.tmp 145], argTypes := #[23, 25, 34] }, _, _, _, none⟩) (by kernel_rfl) rfl (by rfl) (fun w1 sh K hK => ?_); (try clear F); (try have F := Hp.Sh.facts sh); (try simp only [Hp.Facts, Hp.CellsAt, BatP.cellsAt_bt, Nat.reduceAdd, Hp.c1, Hp.c2] at F); (go_simp; go_fit (K20.out _ _ _ sh.data.2.1 sh.data.2.2.2.2); rintro e w1 ⟨s5, c5, rfl, hn9, hr9, hb9, hc9, hm9, -⟩; replace sh := Hp.gain sh hb9 hn9 hr9; clear hn9 hr9 hb9); refine hK _ _ _ _ _ _ (fun _ q => (Hp.Sh.drop1 q)) (fun _ q => q.imp fun W h => h.2) sh ?_; clear hK K; clear sh; (try clear F); (try simp only [Act.put, Hp.p1, Hp.p2, Hp.p3])
            (refine Hp.tks (i := 7) (oi := ⟨some 139, Op.move (Operand.tmp 146), _, _, _, none⟩) (fun _ q => (Hp.Sh.drop1 q)) ?_)
            (refine Hp.tks (i := 8) (oi := ⟨some 147, Op.extract (Operand.tmp 139) 0, _, _, _, none⟩) (fun _ q => (Hp.Sh.drop1 q)) ?_)
            (refine Hp.tks (i := 9) (oi := ⟨some 148, Op.extract (Operand.tmp 139) 1, _, _, _, none⟩) (fun _ q => (Hp.Sh.drop1 q)) ?_)
            (refine Hp.tks (i := 10) (oi := ⟨some 149, Op.extract (Operand.tmp 139) 2, _, _, _, none⟩) (fun _ q => (Hp.Sh.drop1 q)) ?_)
            (refine Hp.tks (i := 12) (oi := ⟨some 18, Op.assign (Operand.tmp 147), _, _, _, none⟩) (fun _ q => (Hp.Sh.drop1 q)) ?_)
            refine Hp.soft_make (i := 13) (o := ⟨none, Op.store 23 (Operand.tmp 19) (Operand.tmp 148), _, _, _, none⟩) (by kernel_rfl) rfl (by rfl) (fun w1 sh K hK => ?_); (try clear F); (try have F := Hp.Sh.facts sh); (try simp only [Hp.Facts, Hp.CellsAt, BatP.cellsAt_bt, Nat.reduceAdd, Hp.c1, Hp.c2] at F); (refine Hp.bst_arr 0 sh rfl rfl rfl HDG.out (by kernel_rfl) ?_; clear sh; (try clear F); go_simp; intro w1 sh; (have F := sh.fxb)); refine hK _ _ _ _ _ _ (fun _ q => (Hp.Sh.drop1 q)) (fun _ q => q) sh ?_; clear hK K; clear sh; (try clear F); (try simp only [Act.put, Hp.p1, Hp.p2, Hp.p3])
            (refine Hp.tks (i := 14) (oi := ⟨some 20, Op.assign (Operand.tmp 149), _, _, _, none⟩) (fun _ q => (Hp.Sh.drop1 q)) ?_)
            refine Hp.soft_done (by kernel_rfl) (fun w1 sh => ?_) _; (try clear F); (try have F := Hp.Sh.facts sh); (try simp only [Hp.Facts, Hp.CellsAt, BatP.cellsAt_bt, Nat.reduceAdd, Hp.c1, Hp.c2] at F)
            (go_wp2_with fail; go_meet; (case rel => exact ⟨b19, s5, c5, rfl, rfl, rfl, sh⟩))
        case rest =>
          clear sh F
          obtain ⟨b19, s5, c5, rfl, rfl, rfl, sh⟩ := hcut
          have F := sh.fxb
          go_wp2_with (first
              | ((with_reducible first | refine Hp.wpl_box sh ?_ ?_ | refine Hp.wpa sh ?_ ?_ | refine Hp.atl_store ?_ ?_); exact rfl; (try (refine Hp.wsB sh ?_)); clear sh; (try clear F); go_simp; (first | intro b w1 sh | intro w1 sh); have F := sh.fxb)
              | fail)
          go_upto_region 21 with (fail)
          go_cut [21, 22, 23] from 21 to 160 (fun t21 t22 t23 wx => ∃ (b22 : Nat) (s6 : Option Addr) (c6 : Nat), t21 = .slice s6 u c6 ∧ t22 = .pointer (some ⟨b22, 0, none⟩) ∧ t23 = .int .i64 es ∧ Hp.Sh w wx [(b22, BatP.bA e, 23), (b19, BatP.bA d, 23), (b6, BatP.bA a, 23)] (fun W => Hp.RdV W s6 (U.flatMap EvP.evc) ∧ Hp.RdV W s5 ((E.take K).flatMap EvP.evc) ∧ Hp.RdV W s4 (M.map ChnP.txc) ∧ Hp.RdV W (some pt) (L.map ChnP.txc) ∧ Hp.RdV W (some pp) (E.flatMap EvP.evc) ∧ Hp.RdV W t (Z.map (Value.int .i64)) ∧ Hp.RdV W (some ⟨0, 0, none⟩) (DigP.wds DigP.consts)))
          case first =>
            refine Hp.region_soft (by kernel_rfl) sh (fun _ q => q) ?_; clear sh; (try clear F)
            (try simp only [Hp.p2, Hp.p3])
            (refine Hp.tk (i := 0) (oi := ⟨some 151, Op.load 23 (Operand.tmp 6), _, _, _, none⟩) _ (fun _ q => q) (fun W hW => (Hp.bexec_load 1 hW rfl rfl (by kernel_rfl) (BatP.dg_size HAL.out))) ?_)
            (refine Hp.tks (i := 1) (oi := ⟨some 152, Op.move (Operand.tmp 1), _, _, _, none⟩) (fun _ q => q) ?_)
            (refine Hp.tks (i := 2) (oi := ⟨some 153, Op.indexAddr 24 (Operand.tmp 152) (Operand.const (Value.int IntKind.i64 0)), _, _, _, none⟩) (fun _ q => q) ?_)
            (refine Hp.tks (i := 3) (oi := ⟨some 154, Op.fieldAddr 47 (Operand.tmp 153) 0, _, _, _, none⟩) (fun _ q => q) ?_)
            (refine Hp.tk (i := 4) (oi := ⟨some 155, Op.load 25 (Operand.tmp 154), _, _, _, none⟩) _ (fun _ q => q) (fun W hW => by (have F := Hp.Sh.facts hW); (have hd := Hp.Sh.data hW); (try simp only [Hp.Facts, Hp.CellsAt, BatP.cellsAt_bt, Nat.reduceAdd, Hp.c1, Hp.c2] at F); have hcf := HC0.out _ hd.2.2.2.1; go_simp; (try with_reducible rfl)) ?_)
            (refine Hp.tks (i := 5) (oi := ⟨some 156, Op.move (Operand.tmp 14), _, _, _, none⟩) (fun _ q => q) ?_)
            refine Hp.soft_two (i := 6) (j := 11) (by kernel_rfl) ?_ ?_
            · refine Hp.soft_step (o := ⟨some 157, Op.call { callee := Callee.value (Operand.func 14), args := #[Operand.tmp 151, Operand.tmp 155, Operand.tmp 156], argTypes := #[23, 25, 34] }, _, _, _, none⟩) rfl (by rfl) (fun w1 sh K hK => ?_); (try clear F); (try have F := Hp.Sh.facts sh); (try simp only [Hp.Facts, Hp.CellsAt, BatP.cellsAt_bt, Nat.reduceAdd, Hp.c1, Hp.c2] at F); (go_simp; go_fit (K21.out _ _ _ sh.data.2.1 sh.data.2.2.2.2.2); rintro e w1 ⟨s6, c6, rfl, hn9, hr9, hb9, hc9, hm9, -⟩; replace sh := Hp.gain sh hb9 hn9 hr9; clear hn9 hr9 hb9); refine hK _ _ _ _ _ _ (fun _ q => q) (fun _ q => q.imp fun W h => h.2) sh ?_; clear hK K; clear sh; (try clear F); (try simp only [Act.put, Hp.p1, Hp.p2, Hp.p3])
              (refine Hp.tks (i := 7) (oi := ⟨some 150, Op.move (Operand.tmp 157), _, _, _, none⟩) (fun _ q => q) ?_)
              (refine Hp.tks (i := 8) (oi := ⟨some 158, Op.extract (Operand.tmp 150) 0, _, _, _, none⟩) (fun _ q => q) ?_)
              (refine Hp.tks (i := 9) (oi := ⟨some 159, Op.extract (Operand.tmp 150) 1, _, _, _, none⟩) (fun _ q => q) ?_)
              (refine Hp.tks (i := 10) (oi := ⟨some 160, Op.extract (Operand.tmp 150) 2, _, _, _, none⟩) (fun _ q => q) ?_)
              refine Hp.soft_make (i := 11) (o := ⟨some 22, Op.alloc 23, _, _, _, none⟩) (by kernel_rfl) rfl (by rfl) (fun w1 sh K hK => ?_); (try clear F); (try have F := Hp.Sh.facts sh); (try simp only [Hp.Facts, Hp.CellsAt, BatP.cellsAt_bt, Nat.reduceAdd, Hp.c1, Hp.c2] at F); (refine Hp.wp_alloc Tryd.z_dg sh ?_; clear sh; (try clear F); go_simp; intro b22 w1 sh; (have F := sh.fxb)); refine hK _ _ _ _ _ _ (fun _ q => (Hp.Sh.drop1 q)) (fun _ q => q) sh ?_; clear hK K; clear sh; (try clear F); (try simp only [Act.put, Hp.p1, Hp.p2, Hp.p3])
              (refine Hp.tks (i := 12) (oi := ⟨some 21, Op.assign (Operand.tmp 158), _, _, _, none⟩) (fun _ q => (Hp.Sh.drop1 q)) ?_)
              refine Hp.soft_make (i := 13) (o := ⟨none, Op.store 23 (Operand.tmp 22) (Operand.tmp 159), _, _, _, none⟩) (by kernel_rfl) rfl (by rfl) (fun w1 sh K hK => ?_); (try clear F); (try have F := Hp.Sh.facts sh); (try simp only [Hp.Facts, Hp.CellsAt, BatP.cellsAt_bt, Nat.reduceAdd, Hp.c1, Hp.c2] at F); (refine Hp.bst_arr 0 sh rfl rfl rfl HEG.out (by kernel_rfl) ?_; clear sh; (try clear F); go_simp; intro w1 sh; (have F := sh.fxb)); refine hK _ _ _ _ _ _ (fun _ q => (Hp.Sh.drop1 q)) (fun _ q => q) sh ?_; clear hK K; clear sh; (try clear F); (try simp only [Act.put, Hp.p1, Hp.p2, Hp.p3])
              (refine Hp.tks (i := 14) (oi := ⟨some 23, Op.assign (Operand.tmp 160), _, _, _, none⟩) (fun _ q => (Hp.Sh.drop1 q)) ?_)
              refine Hp.soft_done (by kernel_rfl) (fun w1 sh => ?_) _; (try clear F); (try have F := Hp.Sh.facts sh); (try simp only [Hp.Facts, Hp.CellsAt, BatP.cellsAt_bt, Nat.reduceAdd, Hp.c1, Hp.c2] at F)
              (go_wp2_with fail; go_meet; (case rel => exact ⟨b22, s6, c6, rfl, rfl, rfl, sh⟩))
            · refine Hp.soft_step (o := ⟨some 22, Op.alloc 23, _, _, _, none⟩) rfl (by rfl) (fun w1 sh K hK => ?_); (try clear F); (try have F := Hp.Sh.facts sh); (try simp only [Hp.Facts, Hp.CellsAt, BatP.cellsAt_bt, Nat.reduceAdd, Hp.c1, Hp.c2] at F); (refine Hp.wp_alloc Tryd.z_dg sh ?_; clear sh; (try clear F); go_simp; intro b22 w1 sh; (have F := sh.fxb)); refine hK _ _ _ _ _ _ (fun _ q => (Hp.Sh.drop1 q)) (fun _ q => q) sh ?_; clear hK K; clear sh; (try clear F); (try simp only [Act.put, Hp.p1, Hp.p2, Hp.p3])
              refine Hp.soft_make (i := 6) (o := ⟨some 157, Op.call { callee := Callee.value (Operand.func 14), args := #[Operand.tmp 151, Operand.tmp 155, Operand.tmp 156], argTypes := #[23, 25, 34] }, _, _, _, none⟩) (by kernel_rfl) rfl (by rfl) (fun w1 sh K hK => ?_); (try clear F); (try have F := Hp.Sh.facts sh); (try simp only [Hp.Facts, Hp.CellsAt, BatP.cellsAt_bt, Nat.reduceAdd, Hp.c1, Hp.c2] at F); (go_simp; go_fit (K21.out _ _ _ sh.data.2.1 sh.data.2.2.2.2.2); rintro e w1 ⟨s6, c6, rfl, hn9, hr9, hb9, hc9, hm9, -⟩; replace sh := Hp.gain sh hb9 hn9 hr9; clear hn9 hr9 hb9); refine hK _ _ _ _ _ _ (fun _ q => (Hp.Sh.drop1 q)) (fun _ q => q.imp fun W h => h.2) sh ?_; clear hK K; clear sh; (try clear F); (try simp only [Act.put, Hp.p1, Hp.p2, Hp.p3])
              (refine Hp.tks (i := 7) (oi := ⟨some 150, Op.move (Operand.tmp 157), _, _, _, none⟩) (fun _ q => (Hp.Sh.drop1 q)) ?_)
              (refine Hp.tks (i := 8) (oi := ⟨some 158, Op.extract (Operand.tmp 150) 0, _, _, _, none⟩) (fun _ q => (Hp.Sh.drop1 q)) ?_)
              (refine Hp.tks (i := 9) (oi := ⟨some 159, Op.extract (Operand.tmp 150) 1, _, _, _, none⟩) (fun _ q => (Hp.Sh.drop1 q)) ?_)
              (refine Hp.tks (i := 10) (oi := ⟨some 160, Op.extract (Operand.tmp 150) 2, _, _, _, none⟩) (fun _ q => (Hp.Sh.drop1 q)) ?_)
              (refine Hp.tks (i := 12) (oi := ⟨some 21, Op.assign (Operand.tmp 158), _, _, _, none⟩) (fun _ q => (Hp.Sh.drop1 q)) ?_)
              refine Hp.soft_make (i := 13) (o := ⟨none, Op.store 23 (Operand.tmp 22) (Operand.tmp 159), _, _, _, none⟩) (by kernel_rfl) rfl (by rfl) (fun w1 sh K hK => ?_); (try clear F); (try have F := Hp.Sh.facts sh); (try simp only [Hp.Facts, Hp.CellsAt, BatP.cellsAt_bt, Nat.reduceAdd, Hp.c1, Hp.c2] at F); (refine Hp.bst_arr 0 sh rfl rfl rfl HEG.out (by kernel_rfl) ?_; clear sh; (try clear F); go_simp; intro w1 sh; (have F := sh.fxb)); refine hK _ _ _ _ _ _ (fun _ q => (Hp.Sh.drop1 q)) (fun _ q => q) sh ?_; clear hK K; clear sh; (try clear F); (try simp only [Act.put, Hp.p1, Hp.p2, Hp.p3])
              (refine Hp.tks (i := 14) (oi := ⟨some 23, Op.assign (Operand.tmp 160), _, _, _, none⟩) (fun _ q => (Hp.Sh.drop1 q)) ?_)
              refine Hp.soft_done (by kernel_rfl) (fun w1 sh => ?_) _; (try clear F); (try have F := Hp.Sh.facts sh); (try simp only [Hp.Facts, Hp.CellsAt, BatP.cellsAt_bt, Nat.reduceAdd, Hp.c1, Hp.c2] at F)
              (go_wp2_with fail; go_meet; (case rel => exact ⟨b22, s6, c6, rfl, rfl, rfl, sh⟩))
          case rest =>
            clear sh F
            obtain ⟨b22, s6, c6, rfl, rfl, rfl, sh⟩ := hcut
            by_cases he : es = 0
            · subst he
              by_cases hde : d = e
              · subst hde
                rw [show (d == d) = true by simp] at HD
                obtain ⟨U', e', y1, y2⟩ := ChnP.chk_lk M a f [] (by rw [HY.out])
                rw [HY.out, List.nil_append] at y1
                obtain ⟨rfl, rfl⟩ : U = U' ∧ d = e' := by cases y1; exact ⟨rfl, rfl⟩
                have hLne : L ≠ [] := fun h => by have := HLL.out; rw [h, List.length_nil] at this; omega
                have hMne : M ≠ [] := fun h => by have := HML.out; rw [h, List.length_nil] at this; omega
                have hl1 := HLL.out
                have hl2 := HML.out
                have hfi := HFI.out
                rcases ChnP.tells' (by omega) HLK.out y2 hLne hMne (by omega) (by omega) with ⟨hAB, hC⟩ | ⟨hAB, x, y, hC, hxy, hof⟩
                · rw [hC] at KC
                  rw [show decide (L = M) = true by simpa using hAB] at KS
                  unfold ChnP.claV at KC
                  dsimp only at KC
                  clear y1 y2 hLne hMne hl1 hl2 hfi hC hAB HY HLK
                  have F := sh.fxb
                  go_wp2_with (first
                      | ((with_reducible refine Hp.at_ld 23 ?_); (first | refine Hp.bld_g 0 sh rfl rfl rfl (by kernel_rfl) (BatP.dg_size HAL.out) ?_ | refine Hp.bld_g 0 sh rfl rfl rfl (by kernel_rfl) (BatP.dg_size HDL.out) ?_ | refine Hp.bld_g 0 sh rfl rfl rfl (by kernel_rfl) (BatP.dg_size HEL.out) ?_ | refine Hp.bld_g 1 sh rfl rfl rfl (by kernel_rfl) (BatP.dg_size HAL.out) ?_ | refine Hp.bld_g 1 sh rfl rfl rfl (by kernel_rfl) (BatP.dg_size HDL.out) ?_ | refine Hp.bld_g 1 sh rfl rfl rfl (by kernel_rfl) (BatP.dg_size HEL.out) ?_ | refine Hp.bld_g 2 sh rfl rfl rfl (by kernel_rfl) (BatP.dg_size HAL.out) ?_ | refine Hp.bld_g 2 sh rfl rfl rfl (by kernel_rfl) (BatP.dg_size HDL.out) ?_ | refine Hp.bld_g 2 sh rfl rfl rfl (by kernel_rfl) (BatP.dg_size HEL.out) ?_); (try simp only [Act.put, Hp.p1, Hp.p2, Hp.p3]))
                      | ((with_reducible first | refine Hp.wpl_box sh ?_ ?_ | refine Hp.wpa sh ?_ ?_ | refine Hp.atl_store ?_ ?_); exact rfl; (try (refine Hp.wsB sh ?_)); clear sh; (try clear F); go_simp; (first | intro b w1 sh | intro w1 sh); have F := sh.fxb)
                      | fail)
                  go_fit (KC.out _ _ _ _ sh.data.2.2.2.1 sh.data.2.2.1 sh.data.2.2.2.2.2.2)
                  rintro e w1 ⟨rfl, hb⟩
                  replace sh := sh.call hb; clear hb; (try clear F); have F := sh.fxb
                  go_wp2_with (first
                      | ((with_reducible first | refine Hp.wpl_box sh ?_ ?_ | refine Hp.wpa sh ?_ ?_ | refine Hp.atl_store ?_ ?_); exact rfl; (try (refine Hp.wsB sh ?_)); clear sh; (try clear F); go_simp; (first | intro b w1 sh | intro w1 sh); have F := sh.fxb)
                      | fail)
                  go_fit (KL.out _ sh.data.2.2.2.2.2.2)
                  rintro e w1 ⟨rfl, hb⟩
                  replace sh := sh.call hb; clear hb; (try clear F); have F := sh.fxb
                  go_wp2_with (first
                      | ((with_reducible first | refine Hp.wpl_box sh ?_ ?_ | refine Hp.wpa sh ?_ ?_ | refine Hp.atl_store ?_ ?_); exact rfl; (try (refine Hp.wsB sh ?_)); clear sh; (try clear F); go_simp; (first | intro b w1 sh | intro w1 sh); have F := sh.fxb)
                      | fail)
                  go_fit (KS.out _ _ _ _ sh.data.2.2.2.1 sh.data.2.2.1)
                  rintro e w1 ⟨rfl, hb⟩
                  replace sh := sh.call hb; clear hb; (try clear F); have F := sh.fxb
                  go_wp2_with (first
                      | ((with_reducible first | refine Hp.wpl_box sh ?_ ?_ | refine Hp.wpa sh ?_ ?_ | refine Hp.atl_store ?_ ?_); exact rfl; (try (refine Hp.wsB sh ?_)); clear sh; (try clear F); go_simp; (first | intro b w1 sh | intro w1 sh); have F := sh.fxb)
                      | fail)
                  go_ret
                  exact ⟨by first | rfl | simp, sh.below⟩
                · rw [hC] at KC
                  unfold ChnP.claV at KC
                  dsimp only at KC
                  clear y1 y2 hLne hMne hl1 hl2 hfi hC hAB hxy hof HY HLK KS
                  have F := sh.fxb
                  go_wp2_with (first
                      | ((with_reducible refine Hp.at_ld 23 ?_); (first | refine Hp.bld_g 0 sh rfl rfl rfl (by kernel_rfl) (BatP.dg_size HAL.out) ?_ | refine Hp.bld_g 0 sh rfl rfl rfl (by kernel_rfl) (BatP.dg_size HDL.out) ?_ | refine Hp.bld_g 0 sh rfl rfl rfl (by kernel_rfl) (BatP.dg_size HEL.out) ?_ | refine Hp.bld_g 1 sh rfl rfl rfl (by kernel_rfl) (BatP.dg_size HAL.out) ?_ | refine Hp.bld_g 1 sh rfl rfl rfl (by kernel_rfl) (BatP.dg_size HDL.out) ?_ | refine Hp.bld_g 1 sh rfl rfl rfl (by kernel_rfl) (BatP.dg_size HEL.out) ?_ | refine Hp.bld_g 2 sh rfl rfl rfl (by kernel_rfl) (BatP.dg_size HAL.out) ?_ | refine Hp.bld_g 2 sh rfl rfl rfl (by kernel_rfl) (BatP.dg_size HDL.out) ?_ | refine Hp.bld_g 2 sh rfl rfl rfl (by kernel_rfl) (BatP.dg_size HEL.out) ?_); (try simp only [Act.put, Hp.p1, Hp.p2, Hp.p3]))
                      | ((with_reducible first | refine Hp.wpl_box sh ?_ ?_ | refine Hp.wpa sh ?_ ?_ | refine Hp.atl_store ?_ ?_); exact rfl; (try (refine Hp.wsB sh ?_)); clear sh; (try clear F); go_simp; (first | intro b w1 sh | intro w1 sh); have F := sh.fxb)
                      | fail)
                  go_fit (KC.out _ _ _ _ sh.data.2.2.2.1 sh.data.2.2.1 sh.data.2.2.2.2.2.2)
                  rintro e w1 ⟨rfl, hb⟩
                  replace sh := sh.call hb; clear hb; (try clear F); have F := sh.fxb
                  go_wp2_with (first
                      | ((with_reducible first | refine Hp.wpl_box sh ?_ ?_ | refine Hp.wpa sh ?_ ?_ | refine Hp.atl_store ?_ ?_); exact rfl; (try (refine Hp.wsB sh ?_)); clear sh; (try clear F); go_simp; (first | intro b w1 sh | intro w1 sh); have F := sh.fxb)
                      | fail)
                  go_fit (KL.out _ sh.data.2.2.2.2.2.2)
                  rintro e w1 ⟨rfl, hb⟩
                  replace sh := sh.call hb; clear hb; (try clear F); have F := sh.fxb
                  go_wp2_with (first
                      | ((with_reducible first | refine Hp.wpl_box sh ?_ ?_ | refine Hp.wpa sh ?_ ?_ | refine Hp.atl_store ?_ ?_); exact rfl; (try (refine Hp.wsB sh ?_)); clear sh; (try clear F); go_simp; (first | intro b w1 sh | intro w1 sh); have F := sh.fxb)
                      | fail)
                  go_ret
                  exact ⟨by first | rfl | simp, sh.below⟩
              · rw [show (d == e) = false by simpa using hde] at HD
                clear hde
                have F := sh.fxb
                go_wp2_with (first
                    | ((with_reducible refine Hp.at_ld 23 ?_); (first | refine Hp.bld_g 0 sh rfl rfl rfl (by kernel_rfl) (BatP.dg_size HAL.out) ?_ | refine Hp.bld_g 0 sh rfl rfl rfl (by kernel_rfl) (BatP.dg_size HDL.out) ?_ | refine Hp.bld_g 0 sh rfl rfl rfl (by kernel_rfl) (BatP.dg_size HEL.out) ?_ | refine Hp.bld_g 1 sh rfl rfl rfl (by kernel_rfl) (BatP.dg_size HAL.out) ?_ | refine Hp.bld_g 1 sh rfl rfl rfl (by kernel_rfl) (BatP.dg_size HDL.out) ?_ | refine Hp.bld_g 1 sh rfl rfl rfl (by kernel_rfl) (BatP.dg_size HEL.out) ?_ | refine Hp.bld_g 2 sh rfl rfl rfl (by kernel_rfl) (BatP.dg_size HAL.out) ?_ | refine Hp.bld_g 2 sh rfl rfl rfl (by kernel_rfl) (BatP.dg_size HDL.out) ?_ | refine Hp.bld_g 2 sh rfl rfl rfl (by kernel_rfl) (BatP.dg_size HEL.out) ?_); (try simp only [Act.put, Hp.p1, Hp.p2, Hp.p3]))
                    | ((with_reducible first | refine Hp.wpl_box sh ?_ ?_ | refine Hp.wpa sh ?_ ?_ | refine Hp.atl_store ?_ ?_); exact rfl; (try (refine Hp.wsB sh ?_)); clear sh; (try clear F); go_simp; (first | intro b w1 sh | intro w1 sh); have F := sh.fxb)
                    | fail)
                go_fit (KL.out _ sh.data.2.2.2.2.2.2)
                rintro e w1 ⟨rfl, hb⟩
                replace sh := sh.call hb; clear hb; (try clear F); have F := sh.fxb
                go_wp2_with (first
                    | ((with_reducible first | refine Hp.wpl_box sh ?_ ?_ | refine Hp.wpa sh ?_ ?_ | refine Hp.atl_store ?_ ?_); exact rfl; (try (refine Hp.wsB sh ?_)); clear sh; (try clear F); go_simp; (first | intro b w1 sh | intro w1 sh); have F := sh.fxb)
                    | fail)
                go_ret
                exact ⟨by first | rfl | simp, sh.below⟩
            · have d1 : (es != 0) = true := by simpa using he
              clear he HD
              have F := sh.fxb
              go_wp2_with (first
                  | ((with_reducible first | refine Hp.wpl_box sh ?_ ?_ | refine Hp.wpa sh ?_ ?_ | refine Hp.atl_store ?_ ?_); exact rfl; (try (refine Hp.wsB sh ?_)); clear sh; (try clear F); go_simp; (first | intro b w1 sh | intro w1 sh); have F := sh.fxb)
                  | fail)
              go_fit (KL.out _ sh.data.2.2.2.2.2.2)
              rintro e w1 ⟨rfl, hb⟩
              replace sh := sh.call hb; clear hb; (try clear F); have F := sh.fxb
              go_wp2_with (first
                  | ((with_reducible first | refine Hp.wpl_box sh ?_ ?_ | refine Hp.wpa sh ?_ ?_ | refine Hp.atl_store ?_ ?_); exact rfl; (try (refine Hp.wsB sh ?_)); clear sh; (try clear F); go_simp; (first | intro b w1 sh | intro w1 sh); have F := sh.fxb)
                  | fail)
              go_ret
              exact ⟨by first | rfl | simp, sh.below⟩


end Go.Proofs.YtfcffglgkblidaaDoor
