
/-
  The walk of ChainGoes.
-/
import Derived.Test.YtfcffglgkblidaaDoorChn8
import Derived.Test.YtfcffglgkblidaaDoorBat8
import Derived.Test.YtfcffglgkblidaaDoorChnLen
namespace Go.Proofs.YtfcffglgkblidaaDoor
open Go.RowKit
set_option linter.unusedVariables false
set_option linter.unusedSimpArgs false
namespace Hp
theorem at_sll {P : Program} {dst : Option Tmp} {ty : TypeId} {pos : String} {af : Array Edge} {gd : Option (Nat × Bool)} {a : Act} {w : World} {Q : Exit → Act → World → Prop} (T : TypeId) {ops : Array Oper} {rest : List Oper} {x y : Operand} (h : wpList P ops Q (⟨dst, .slice T x (some y) none none, ty, pos, af, gd⟩ :: rest) a w) : wpList P ops Q (⟨dst, .slice T x (some y) none none, ty, pos, af, gd⟩ :: rest) a w := h
end Hp
set_option maxHeartbeats 8000000 in
set_option maxRecDepth 100000 in
theorem chainGoes_walk (a : List UInt8) (ha : a.length = 32) (s : Option Addr) (n c : Nat) (E : List EvP.Ev) (hn : n = E.length) (hnc : n ≤ c) (hcm : c ≤ maxLen) (hnone : s = none → n = 0 ∧ c = 0) (hE : ∀ x ∈ E, EvP.EvB x) (t : Option Addr) (zn zd : Nat) (Z : List Int) (hz : zn = Z.length) (k : Int) (hk1 : -9223372036854775808 ≤ k) (hk2 : k ≤ 9223372036854775807) (w : World) (hR : Hp.RdV w s (E.flatMap EvP.evc)) (hZ : Hp.RdV w t (Z.map (Value.int .i64))) (hG : Hp.RdV w (some ⟨0, 0, none⟩) (DigP.wds DigP.consts)) :
    Calls Tryd.prog 6 #[.agg (BatP.bA a), .slice s n c, .slice t zn zd, .int .i64 k] w fun e w' => e = .returned (.bool true) ∧ Below w.heap.size w w' := by
  have sh := (Hp.Sh.start ((RdV_rob hR).and ((RdV_rob hZ).and (RdV_rob hG))) : Hp.Sh w w [] (fun W => Hp.RdV W s (E.flatMap EvP.evc) ∧ Hp.RdV W t (Z.map (Value.int .i64)) ∧ Hp.RdV W (some ⟨0, 0, none⟩) (DigP.wds DigP.consts)))
  have KL := Lib.hid (fun W g => clinked W g)
  by_cases c200 : 200 < n
  · have c1I : (200 : Int) < (n : Int) := by omega
    clear hn hnc hcm hnone hE ha hz
    go_enter Tryd.func6, Tryd.ntmps6
    have F := sh.fxb
    have tok_b4 : True := trivial
    go_wp2_with (first
        | ((with_reducible first | refine Hp.wpl_box sh ?_ ?_ | refine Hp.wpa sh ?_ ?_ | refine Hp.atl_store ?_ ?_); exact rfl; (try (refine Hp.wsB sh ?_)); clear sh; (try clear F); go_simp; (first | (have tok := tok_b4; clear tok tok_b4; intro b4 w1 sh) | intro b w1 sh | intro w1 sh); have F := sh.fxb)
        | fail)
    go_fit (KL.out _ sh.data.2.2)
    rintro e w1 ⟨rfl, hb⟩
    replace sh := sh.call hb; clear hb; (try clear F); have F := sh.fxb
    go_wp2_with (first
        | ((with_reducible first | refine Hp.wpl_box sh ?_ ?_ | refine Hp.wpa sh ?_ ?_ | refine Hp.atl_store ?_ ?_); exact rfl; (try (refine Hp.wsB sh ?_)); clear sh; (try clear F); go_simp; (first | intro b w1 sh | intro w1 sh); have F := sh.fxb)
        | fail)
    go_ret
    exact ⟨by first | rfl | simp, sh.below⟩
  have c1I : ¬ (200 : Int) < (n : Int) := by omega
  by_cases c30 : 30 < zn
  · have c2I : (30 : Int) < (zn : Int) := by omega
    clear hn hnc hcm hnone hE ha hz
    go_enter Tryd.func6, Tryd.ntmps6
    have F := sh.fxb
    have tok_b4 : True := trivial
    go_wp2_with (first
        | ((with_reducible first | refine Hp.wpl_box sh ?_ ?_ | refine Hp.wpa sh ?_ ?_ | refine Hp.atl_store ?_ ?_); exact rfl; (try (refine Hp.wsB sh ?_)); clear sh; (try clear F); go_simp; (first | (have tok := tok_b4; clear tok tok_b4; intro b4 w1 sh) | intro b w1 sh | intro w1 sh); have F := sh.fxb)
        | fail)
    go_fit (KL.out _ sh.data.2.2)
    rintro e w1 ⟨rfl, hb⟩
    replace sh := sh.call hb; clear hb; (try clear F); have F := sh.fxb
    go_wp2_with (first
        | ((with_reducible first | refine Hp.wpl_box sh ?_ ?_ | refine Hp.wpa sh ?_ ?_ | refine Hp.atl_store ?_ ?_); exact rfl; (try (refine Hp.wsB sh ?_)); clear sh; (try clear F); go_simp; (first | intro b w1 sh | intro w1 sh); have F := sh.fxb)
        | fail)
    go_ret
    exact ⟨by first | rfl | simp, sh.below⟩
  have c2I : ¬ (30 : Int) < (zn : Int) := by omega
  by_cases n0 : n = 0
  · have n1 : ((n : Int) == 0) = true := by simpa using n0
    have n2 : (n == 0) = true := by simpa using n0
    clear hn hnc hcm hnone hE ha hz n0
    go_enter Tryd.func6, Tryd.ntmps6
    have F := sh.fxb
    have tok_b4 : True := trivial
    go_wp2_with (first
        | ((with_reducible first | refine Hp.wpl_box sh ?_ ?_ | refine Hp.wpa sh ?_ ?_ | refine Hp.atl_store ?_ ?_); exact rfl; (try (refine Hp.wsB sh ?_)); clear sh; (try clear F); go_simp; (first | (have tok := tok_b4; clear tok tok_b4; intro b4 w1 sh) | intro b w1 sh | intro w1 sh); have F := sh.fxb)
        | fail)
    go_fit (KL.out _ sh.data.2.2)
    rintro e w1 ⟨rfl, hb⟩
    replace sh := sh.call hb; clear hb; (try clear F); have F := sh.fxb
    go_wp2_with (first
        | ((with_reducible first | refine Hp.wpl_box sh ?_ ?_ | refine Hp.wpa sh ?_ ?_ | refine Hp.atl_store ?_ ?_); exact rfl; (try (refine Hp.wsB sh ?_)); clear sh; (try clear F); go_simp; (first | intro b w1 sh | intro w1 sh); have F := sh.fxb)
        | fail)
    go_ret
    exact ⟨by first | rfl | simp, sh.below⟩
  have n1 : ((n : Int) == 0) = false := by simpa using n0
  have n2 : (n == 0) = false := by simpa using n0
  have KR := Lib.hid (fun W r => erun s E n c hn hnc (by omega) hE W r)
  cases hrun : EvP.runB E with
  | false =>
    rw [hrun] at KR
    clear hn hnc hcm hnone hE ha hrun hz
    go_enter Tryd.func6, Tryd.ntmps6
    have F := sh.fxb
    have tok_b4 : True := trivial
    go_wp2_with (first
        | ((with_reducible first | refine Hp.wpl_box sh ?_ ?_ | refine Hp.wpa sh ?_ ?_ | refine Hp.atl_store ?_ ?_); exact rfl; (try (refine Hp.wsB sh ?_)); clear sh; (try clear F); go_simp; (first | (have tok := tok_b4; clear tok tok_b4; intro b4 w1 sh) | intro b w1 sh | intro w1 sh); have F := sh.fxb)
        | fail)
    go_fit (KR.out _ sh.data.1)
    rintro e w1 ⟨rfl, hb⟩
    replace sh := sh.call hb; clear hb; (try clear F); have F := sh.fxb
    have tok_b4 : True := trivial
    go_wp2_with (first
        | ((with_reducible first | refine Hp.wpl_box sh ?_ ?_ | refine Hp.wpa sh ?_ ?_ | refine Hp.atl_store ?_ ?_); exact rfl; (try (refine Hp.wsB sh ?_)); clear sh; (try clear F); go_simp; (first | (have tok := tok_b4; clear tok tok_b4; intro b4 w1 sh) | intro b w1 sh | intro w1 sh); have F := sh.fxb)
        | fail)
    go_fit (KL.out _ sh.data.2.2)
    rintro e w1 ⟨rfl, hb⟩
    replace sh := sh.call hb; clear hb; (try clear F); have F := sh.fxb
    go_wp2_with (first
        | ((with_reducible first | refine Hp.wpl_box sh ?_ ?_ | refine Hp.wpa sh ?_ ?_ | refine Hp.atl_store ?_ ?_); exact rfl; (try (refine Hp.wsB sh ?_)); clear sh; (try clear F); go_simp; (first | intro b w1 sh | intro w1 sh); have F := sh.fxb)
        | fail)
    go_ret
    exact ⟨by first | rfl | simp, sh.below⟩
  | true =>
    rw [hrun] at KR
    have hne : E ≠ [] := fun h => n0 (by rw [hn, h]; rfl)
    have hEE : ∀ x ∈ E, 0 ≤ x.1 ∧ x.1 ≤ 18446744073709551615 := fun x hx => (hE x hx).1
    have hfi := ChnP.firstOf_in hEE
    obtain ⟨K, d, hK, hLk, hL30, hLt⟩ := ChnP.rows_lk Z a (ChnP.firstOf E) E ha hrun hEE (by omega) (fun _ => rfl)
    have KW := Lib.hid (fun W r r2 g => crows a ha s n c E hn hnc hcm hnone (by omega) hE t zn zd Z hz (by omega) W r r2 g)
    obtain ⟨L, hL⟩ : ∃ L, ChnP.rowsL a E Z = L := ⟨_, rfl⟩
    rw [hL] at KW hLk hL30 hLt
    obtain ⟨r, hr⟩ : ∃ r, r = L.length := ⟨_, rfl⟩
    unfold ChnP.TxP at KW
    rw [← hr] at KW
    have HAL := Lib.hid ha
    have HDL := Lib.hid ha
    have HML := Lib.hid ha
    by_cases r0 : r = 0
    · have r1 : ((r : Int) == 0) = true := by simpa using r0
      have r2 : (r == 0) = true := by simpa using r0
      clear hn hnc hcm hnone hE ha hrun hz hne hEE hfi hK hLk hL30 hLt hL hr r0
      go_enter Tryd.func6, Tryd.ntmps6
      have F := sh.fxb
      have tok_b4 : True := trivial
      go_wp2_with (first
          | ((with_reducible first | refine Hp.wpl_box sh ?_ ?_ | refine Hp.wpa sh ?_ ?_ | refine Hp.atl_store ?_ ?_); exact rfl; (try (refine Hp.wsB sh ?_)); clear sh; (try clear F); go_simp; (first | (have tok := tok_b4; clear tok tok_b4; intro b4 w1 sh) | intro b w1 sh | intro w1 sh); have F := sh.fxb)
          | fail)
      go_fit (KR.out _ sh.data.1)
      rintro e w1 ⟨rfl, hb⟩
      replace sh := sh.call hb; clear hb; (try clear F); have F := sh.fxb
      go_wp2_with (first
          | ((with_reducible refine Hp.at_ld 23 ?_); (first | refine Hp.bld_g 0 sh rfl rfl rfl (by kernel_rfl) (BatP.dg_size HAL.out) ?_ | refine Hp.bld_g 0 sh rfl rfl rfl (by kernel_rfl) (BatP.dg_size HDL.out) ?_ | refine Hp.bld_g 0 sh rfl rfl rfl (by kernel_rfl) (BatP.dg_size HML.out) ?_ | refine Hp.bld_g 1 sh rfl rfl rfl (by kernel_rfl) (BatP.dg_size HAL.out) ?_ | refine Hp.bld_g 1 sh rfl rfl rfl (by kernel_rfl) (BatP.dg_size HDL.out) ?_ | refine Hp.bld_g 1 sh rfl rfl rfl (by kernel_rfl) (BatP.dg_size HML.out) ?_ | refine Hp.bld_g 2 sh rfl rfl rfl (by kernel_rfl) (BatP.dg_size HAL.out) ?_ | refine Hp.bld_g 2 sh rfl rfl rfl (by kernel_rfl) (BatP.dg_size HDL.out) ?_ | refine Hp.bld_g 2 sh rfl rfl rfl (by kernel_rfl) (BatP.dg_size HML.out) ?_ | refine Hp.bld_g 3 sh rfl rfl rfl (by kernel_rfl) (BatP.dg_size HAL.out) ?_ | refine Hp.bld_g 3 sh rfl rfl rfl (by kernel_rfl) (BatP.dg_size HDL.out) ?_ | refine Hp.bld_g 3 sh rfl rfl rfl (by kernel_rfl) (BatP.dg_size HML.out) ?_); (try simp only [Act.put, Hp.p1, Hp.p2, Hp.p3]))
          | ((with_reducible first | refine Hp.wpl_box sh ?_ ?_ | refine Hp.wpa sh ?_ ?_ | refine Hp.atl_store ?_ ?_); exact rfl; (try (refine Hp.wsB sh ?_)); clear sh; (try clear F); go_simp; (first | intro b w1 sh | intro w1 sh); have F := sh.fxb)
          | fail)
      go_fit (KW.out _ sh.data.1 sh.data.2.1 sh.data.2.2)
      rintro e w1 ⟨s1, c1, rfl, hn9, hr9, hb9, hc1, hm1, hno1⟩
      replace sh := Hp.gain sh hb9 hn9 hr9
      clear hn9 hr9 hb9
      (try clear F); (have F := sh.fxb)
      have tok_b4 : True := trivial
      go_wp2_with (first
          | ((with_reducible first | refine Hp.wpl_box sh ?_ ?_ | refine Hp.wpa sh ?_ ?_ | refine Hp.atl_store ?_ ?_); exact rfl; (try (refine Hp.wsB sh ?_)); clear sh; (try clear F); go_simp; (first | (have tok := tok_b4; clear tok tok_b4; intro b4 w1 sh) | intro b w1 sh | intro w1 sh); have F := sh.fxb)
          | fail)
      go_fit (KL.out _ sh.data.2.2.2)
      rintro e w1 ⟨rfl, hb⟩
      replace sh := sh.call hb; clear hb; (try clear F); have F := sh.fxb
      go_wp2_with (first
          | ((with_reducible first | refine Hp.wpl_box sh ?_ ?_ | refine Hp.wpa sh ?_ ?_ | refine Hp.atl_store ?_ ?_); exact rfl; (try (refine Hp.wsB sh ?_)); clear sh; (try clear F); go_simp; (first | intro b w1 sh | intro w1 sh); have F := sh.fxb)
          | fail)
      go_ret
      exact ⟨by first | rfl | simp, sh.below⟩
    have r1 : ((r : Int) == 0) = false := by simpa using r0
    have r2 : (r == 0) = false := by simpa using r0
    obtain ⟨pp, hpp, -⟩ := hR (Hp.flat_pos EvP.evc_len (by decide) (k := 0) (by omega))
    subst hpp
    have HC0 := Lib.hid (fun W (q : Hp.RdV W (some pp) (E.flatMap EvP.evc)) => ChnP.first_cell q (by omega))
    have n3 : 0 < n := by omega
    have n4 : (0 : Int) < (n : Int) := by omega
    obtain ⟨f, hf⟩ : ∃ f, ChnP.firstOf E = f := ⟨_, rfl⟩
    rw [hf] at HC0 hLk hfi
    have hfi' : 0 ≤ f ∧ f < 18446744073709551616 := by omega
    have hd32 : d.length = 32 := by
      have h1 := ChnP.chk_len L a f [] ha
      rw [ChnP.lk_chk _ _ _ _ _ _ hLk] at h1
      exact h1
    have hLt4 : ∀ x ∈ L, x.length ≤ 40000 := fun x hx => by have := hLt x hx; omega
    have K6 := Lib.hid (fun s1 c1 W q g => ccheck a ha f hfi s1 r c1 L hr (by omega) hLt4 W q g)
    rw [ChnP.lk_chk _ _ _ _ _ _ hLk, List.nil_append] at K6
    unfold ChnP.ChkP at K6
    have hKl : (E.take K).length = K := by rw [List.length_take]; omega
    dsimp only at K6
    rw [hKl] at K6
    obtain ⟨kk, hkk⟩ : ∃ kk, (min (max k 0) (r : Int)).toNat = kk := ⟨_, rfl⟩
    have hkI : min (max k 0) (r : Int) = ((kk : Nat) : Int) := by omega
    have hkr : kk ≤ r := by omega
    obtain ⟨m, mid, hLa, hmE, hmK, hLb⟩ := ChnP.lk_split hfi' hLk kk
    have hm32 : mid.length = 32 := by
      have h1 := ChnP.chk_len (L.take kk) a f [] ha
      rw [ChnP.lk_chk _ _ _ _ _ _ hLa] at h1
      exact h1
    have K8 := Lib.hid (fun s1 c1 W q g => ccheck a ha f hfi s1 kk c1 (L.take kk) (by rw [List.length_take]; omega) (by omega) (fun x hx => hLt4 x (List.mem_of_mem_take hx)) W q g)
    rw [ChnP.lk_chk _ _ _ _ _ _ hLa, List.nil_append] at K8
    unfold ChnP.ChkP at K8
    have hml : (E.take m).length = m := by rw [List.length_take]; omega
    dsimp only at K8
    rw [hml] at K8
    obtain ⟨nf, hnf⟩ : ∃ nf, ChnP.nxt f m = nf := ⟨_, rfl⟩
    have hnfi := ChnP.nxt_in f m
    rw [hnf] at hLb hnfi
    have K12 := Lib.hid (fun s1 c1 W q g => ccheck mid hm32 nf (by omega) s1 (r - kk) c1 (L.drop kk) (by rw [List.length_drop]; omega) (by omega) (fun x hx => hLt4 x (List.mem_of_mem_drop hx)) W q g)
    rw [ChnP.lk_chk _ _ _ _ _ _ hLb, List.nil_append] at K12
    unfold ChnP.ChkP at K12
    have hdl : ((E.take K).drop m).length = K - m := by rw [List.length_drop, hKl]
    dsimp only at K12
    rw [hdl] at K12
    have hmn : m ≤ n := by omega
    have KA := Lib.hid (fun s1 s2 c1 c2 W q q2 => bsame04 s1 s2 (E.take K) K c1 c2 hKl.symm (by omega) W q q2)
    have KB := Lib.hid (fun s1 s2 c1 c2 W q q2 => bsame04 s1 s2 (E.take m) m c1 c2 hml.symm (by omega) W q q2)
    have KC := Lib.hid (fun s1 s2 c1 c2 W q q2 => bsame04 s1 s2 ((E.take K).drop m) (K - m) c1 c2 hdl.symm (by omega) W q q2)
    -- the last text
    have hrl : r - 1 < L.length := by omega
    obtain ⟨x, hx⟩ : ∃ x, L[r - 1] = x := ⟨_, rfl⟩
    have HCT0 := Lib.hid (fun W pt (q : Hp.RdV W (some pt) (L.map ChnP.txc)) => ChnP.tx_cell q hrl hx)
    have hx40 : x.length ≤ 40000 := by rw [← hx]; exact hLt4 _ (List.getElem_mem _)
    have hdx : d = DigP.of x := by
      have e1 : L = L.take (r - 1) ++ [x] := by
        rw [← hx, List.take_append_getElem]
        exact (List.take_of_length_le (by omega)).symm
      rw [e1] at hLk
      exact ChnP.lk_last hfi' hLk
    have KO := Lib.hid (fun W g => cof x (by omega) W g)
    rw [← hdx] at KO
    have HLL := Lib.hid hr.symm
    have HLP := Lib.hid (fun (s1 : Option Addr) W (q : Hp.RdV W s1 (L.map ChnP.txc)) => (show ∃ pt, s1 = some pt by
      obtain ⟨pt, hpt, -⟩ := q (by rw [List.length_map]; omega)
      exact ⟨pt, hpt⟩))
    have HD := bdeq d d hd32 hd32
    rw [show (d == d) = true by simp] at HD
    have z1 : IntKind.u64.wrap (f + IntKind.u64.wrap (m : Int)) = nf := by rw [← hnf]; unfold ChnP.nxt; simp [IntKind.wrap, IntKind.bits, IntKind.signed]
    have z2 : IntKind.u64.wrap (f + (m : Int)) = nf := by rw [← hnf]; unfold ChnP.nxt; simp [IntKind.wrap, IntKind.bits, IntKind.signed]
    have z3 : IntKind.u64.wrap (m : Int) = (m : Int) := by simp [IntKind.wrap, IntKind.bits, IntKind.signed]; omega
    have z4 : (f + (m : Int)) % 18446744073709551616 = nf := by rw [← hnf]; rfl
    have z5 : IntKind.i64.wrap ((r : Int) - 1) = ((r - 1 : Nat) : Int) := by rw [IntWalk.i64_in _ (by omega)]; omega
    have z6 : r - 1 < r := by omega
    have t1 : ¬ (n : Int) < (K : Int) := by omega
    have t2 : ¬ (K : Int) < (m : Int) := by omega
    clear HDL HML
    have HDL := Lib.hid hd32
    have HML := Lib.hid hm32
    have HDG := Lib.hid (show d.length = BatP.zeros.length from hd32)
    have HMG := Lib.hid (show mid.length = BatP.zeros.length from hm32)
    have hKc : K ≤ c := by omega
    have hmc : m ≤ c := by omega
    clear hE ha hrun hne hEE hf hfi hfi' hLk hL30 hLt hLt4 hL hr r0 hd32 hm32 hKl hml hdl hnf hnfi hLa hLb hrl hx hx40 hdx hkk hn hnone hz
    go_enter Tryd.func6, Tryd.ntmps6
    have F := sh.fxb
    have tok_b4 : True := trivial
    go_wp2_with (first
        | ((with_reducible first | refine Hp.wpl_box sh ?_ ?_ | refine Hp.wpa sh ?_ ?_ | refine Hp.atl_store ?_ ?_); exact rfl; (try (refine Hp.wsB sh ?_)); clear sh; (try clear F); go_simp; (first | (have tok := tok_b4; clear tok tok_b4; intro b4 w1 sh) | intro b w1 sh | intro w1 sh); have F := sh.fxb)
        | fail)
    go_fit (KR.out _ sh.data.1)
    rintro e w1 ⟨rfl, hb⟩
    replace sh := sh.call hb; clear hb; (try clear F); have F := sh.fxb
    go_wp2_with (first
        | ((with_reducible refine Hp.at_ld 23 ?_); (first | refine Hp.bld_g 0 sh rfl rfl rfl (by kernel_rfl) (BatP.dg_size HAL.out) ?_ | refine Hp.bld_g 0 sh rfl rfl rfl (by kernel_rfl) (BatP.dg_size HDL.out) ?_ | refine Hp.bld_g 0 sh rfl rfl rfl (by kernel_rfl) (BatP.dg_size HML.out) ?_ | refine Hp.bld_g 1 sh rfl rfl rfl (by kernel_rfl) (BatP.dg_size HAL.out) ?_ | refine Hp.bld_g 1 sh rfl rfl rfl (by kernel_rfl) (BatP.dg_size HDL.out) ?_ | refine Hp.bld_g 1 sh rfl rfl rfl (by kernel_rfl) (BatP.dg_size HML.out) ?_ | refine Hp.bld_g 2 sh rfl rfl rfl (by kernel_rfl) (BatP.dg_size HAL.out) ?_ | refine Hp.bld_g 2 sh rfl rfl rfl (by kernel_rfl) (BatP.dg_size HDL.out) ?_ | refine Hp.bld_g 2 sh rfl rfl rfl (by kernel_rfl) (BatP.dg_size HML.out) ?_ | refine Hp.bld_g 3 sh rfl rfl rfl (by kernel_rfl) (BatP.dg_size HAL.out) ?_ | refine Hp.bld_g 3 sh rfl rfl rfl (by kernel_rfl) (BatP.dg_size HDL.out) ?_ | refine Hp.bld_g 3 sh rfl rfl rfl (by kernel_rfl) (BatP.dg_size HML.out) ?_); (try simp only [Act.put, Hp.p1, Hp.p2, Hp.p3]))
        | ((with_reducible first | refine Hp.wpl_box sh ?_ ?_ | refine Hp.wpa sh ?_ ?_ | refine Hp.atl_store ?_ ?_); exact rfl; (try (refine Hp.wsB sh ?_)); clear sh; (try clear F); go_simp; (first | intro b w1 sh | intro w1 sh); have F := sh.fxb)
        | fail)
    go_fit (KW.out _ sh.data.1 sh.data.2.1 sh.data.2.2)
    rintro e w1 ⟨s1, c1, rfl, hn9, hr9, hb9, hc1, hm1, hno1⟩
    replace sh := Hp.gain sh hb9 hn9 hr9
    clear hn9 hr9 hb9
    (try clear F); (have F := sh.fxb)
    obtain ⟨pt, rfl⟩ := HLP.out _ _ sh.data.1
    have HCT := Lib.hid (HCT0.out · pt)
    have hkc : kk ≤ c1 := by omega
    go_wp2_with (first
        | ((with_reducible first | refine Hp.wpl_box sh ?_ ?_ | refine Hp.wpa sh ?_ ?_ | refine Hp.atl_store ?_ ?_); exact rfl; (try (refine Hp.wsB sh ?_)); clear sh; (try clear F); go_simp; (first | intro b w1 sh | intro w1 sh); have F := sh.fxb)
        | fail)
    go_upto_region 6 with (fail)
    go_cut [10, 11, 12] from 10 to 56 (fun t10 t11 t12 wx => ∃ (b11 : Nat) (s2 : Option Addr) (c2 : Nat), t10 = .slice s2 K c2 ∧ t11 = .pointer (some ⟨b11, 0, none⟩) ∧ t12 = .int .i64 0 ∧ K ≤ c2 ∧ Hp.Sh w wx [(b11, BatP.bA d, 23), (b4, BatP.bA a, 23)] (fun W => Hp.RdV W s2 ((E.take K).flatMap EvP.evc) ∧ Hp.RdV W (some pt) (L.map ChnP.txc) ∧ Hp.RdV W (some pp) (E.flatMap EvP.evc) ∧ Hp.RdV W t (Z.map (Value.int .i64)) ∧ Hp.RdV W (some ⟨0, 0, none⟩) (DigP.wds DigP.consts)))
    case first =>
      refine Hp.region_soft (by kernel_rfl) sh (fun _ q => q) ?_; clear sh; (try clear F)
      (try simp only [Hp.p2, Hp.p3])
      (refine Hp.tk (i := 0) (oi := ⟨some 47, Op.load 23 (Operand.tmp 4), _, _, _, none⟩) _ (fun _ q => q) (fun W hW => (Hp.bexec_load 0 hW rfl rfl (by kernel_rfl) (BatP.dg_size HAL.out))) ?_)
      (refine Hp.tks (i := 1) (oi := ⟨some 48, Op.move (Operand.tmp 1), _, _, _, none⟩) (fun _ q => q) ?_)
      (refine Hp.tks (i := 2) (oi := ⟨some 49, Op.indexAddr 24 (Operand.tmp 48) (Operand.const (Value.int IntKind.i64 0)), _, _, _, none⟩) (fun _ q => q) ?_)
      (refine Hp.tks (i := 3) (oi := ⟨some 50, Op.fieldAddr 47 (Operand.tmp 49) 0, _, _, _, none⟩) (fun _ q => q) ?_)
      (refine Hp.tk (i := 4) (oi := ⟨some 51, Op.load 25 (Operand.tmp 50), _, _, _, none⟩) _ (fun _ q => q) (fun W hW => by (have F := Hp.Sh.facts hW); (have hd := Hp.Sh.data hW); (try simp only [Hp.Facts, Hp.CellsAt, BatP.cellsAt_bt, Nat.reduceAdd, Hp.c1, Hp.c2] at F); have hcf := HC0.out _ hd.2.1; go_simp; (try with_reducible rfl)) ?_)
      (refine Hp.tks (i := 5) (oi := ⟨some 52, Op.move (Operand.tmp 9), _, _, _, none⟩) (fun _ q => q) ?_)
      refine Hp.soft_two (i := 6) (j := 11) (by kernel_rfl) ?_ ?_
      · refine Hp.soft_step (o := ⟨some 53, Op.call { callee := Callee.value (Operand.func 14), args := #[Operand.tmp 47, Operand.tmp 51, Operand.tmp 52], argTypes := #[23, 25, 34] }, _, _, _, none⟩) rfl (by rfl) (fun w1 sh K hK => ?_); (try clear F); (try have F := Hp.Sh.facts sh); (try simp only [Hp.Facts, Hp.CellsAt, BatP.cellsAt_bt, Nat.reduceAdd, Hp.c1, Hp.c2] at F); (go_simp; go_fit (K6.out _ _ _ sh.data.1 sh.data.2.2.2); rintro e w1 ⟨s2, c2, rfl, hn9, hr9, hb9, hc9, hm9, -⟩; replace sh := Hp.gain sh hb9 hn9 hr9; clear hn9 hr9 hb9); refine hK _ _ _ _ _ _ (fun _ q => q) (fun _ q => q.imp fun W h => h.2) sh ?_; clear hK K; clear sh; (try clear F); (try simp only [Act.put, Hp.p1, Hp.p2, Hp.p3])
        (refine Hp.tks (i := 7) (oi := ⟨some 46, Op.move (Operand.tmp 53), _, _, _, none⟩) (fun _ q => q) ?_)
        (refine Hp.tks (i := 8) (oi := ⟨some 54, Op.extract (Operand.tmp 46) 0, _, _, _, none⟩) (fun _ q => q) ?_)
        (refine Hp.tks (i := 9) (oi := ⟨some 55, Op.extract (Operand.tmp 46) 1, _, _, _, none⟩) (fun _ q => q) ?_)
        (refine Hp.tks (i := 10) (oi := ⟨some 56, Op.extract (Operand.tmp 46) 2, _, _, _, none⟩) (fun _ q => q) ?_)
        refine Hp.soft_make (i := 11) (o := ⟨some 11, Op.alloc 23, _, _, _, none⟩) (by kernel_rfl) rfl (by rfl) (fun w1 sh K hK => ?_); (try clear F); (try have F := Hp.Sh.facts sh); (try simp only [Hp.Facts, Hp.CellsAt, BatP.cellsAt_bt, Nat.reduceAdd, Hp.c1, Hp.c2] at F); (refine Hp.wp_alloc Tryd.z_dg sh ?_; clear sh; (try clear F); go_simp; intro b11 w1 sh; (have F := sh.fxb)); refine hK _ _ _ _ _ _ (fun _ q => (Hp.Sh.drop1 q)) (fun _ q => q) sh ?_; clear hK K; clear sh; (try clear F); (try simp only [Act.put, Hp.p1, Hp.p2, Hp.p3])
        (refine Hp.tks (i := 12) (oi := ⟨some 10, Op.assign (Operand.tmp 54), _, _, _, none⟩) (fun _ q => (Hp.Sh.drop1 q)) ?_)
        refine Hp.soft_make (i := 13) (o := ⟨none, Op.store 23 (Operand.tmp 11) (Operand.tmp 55), _, _, _, none⟩) (by kernel_rfl) rfl (by rfl) (fun w1 sh K hK => ?_); (try clear F); (try have F := Hp.Sh.facts sh); (try simp only [Hp.Facts, Hp.CellsAt, BatP.cellsAt_bt, Nat.reduceAdd, Hp.c1, Hp.c2] at F); (refine Hp.bst_arr 0 sh rfl rfl rfl HDG.out (by kernel_rfl) ?_; clear sh; (try clear F); go_simp; intro w1 sh; (have F := sh.fxb)); refine hK _ _ _ _ _ _ (fun _ q => (Hp.Sh.drop1 q)) (fun _ q => q) sh ?_; clear hK K; clear sh; (try clear F); (try simp only [Act.put, Hp.p1, Hp.p2, Hp.p3])
        (refine Hp.tks (i := 14) (oi := ⟨some 12, Op.assign (Operand.tmp 56), _, _, _, none⟩) (fun _ q => (Hp.Sh.drop1 q)) ?_)
        refine Hp.soft_done (by kernel_rfl) (fun w1 sh => ?_) _; (try clear F); (try have F := Hp.Sh.facts sh); (try simp only [Hp.Facts, Hp.CellsAt, BatP.cellsAt_bt, Nat.reduceAdd, Hp.c1, Hp.c2] at F)
        (go_wp2_with fail; go_meet; (case rel => exact ⟨b11, s2, c2, rfl, rfl, rfl, hc9, sh⟩))
      · refine Hp.soft_step (o := ⟨some 11, Op.alloc 23, _, _, _, none⟩) rfl (by rfl) (fun w1 sh K hK => ?_); (try clear F); (try have F := Hp.Sh.facts sh); (try simp only [Hp.Facts, Hp.CellsAt, BatP.cellsAt_bt, Nat.reduceAdd, Hp.c1, Hp.c2] at F); (refine Hp.wp_alloc Tryd.z_dg sh ?_; clear sh; (try clear F); go_simp; intro b11 w1 sh; (have F := sh.fxb)); refine hK _ _ _ _ _ _ (fun _ q => (Hp.Sh.drop1 q)) (fun _ q => q) sh ?_; clear hK K; clear sh; (try clear F); (try simp only [Act.put, Hp.p1, Hp.p2, Hp.p3])
        refine Hp.soft_make (i := 6) (o := ⟨some 53, Op.call { callee := Callee.value (Operand.func 14), args := #[Operand.tmp 47, Operand.tmp 51, Operand.tmp 52], argTypes := #[23, 25, 34] }, _, _, _, none⟩) (by kernel_rfl) rfl (by rfl) (fun w1 sh K hK => ?_); (try clear F); (try have F := Hp.Sh.facts sh); (try simp only [Hp.Facts, Hp.CellsAt, BatP.cellsAt_bt, Nat.reduceAdd, Hp.c1, Hp.c2] at F); (go_simp; go_fit (K6.out _ _ _ sh.data.1 sh.data.2.2.2); rintro e w1 ⟨s2, c2, rfl, hn9, hr9, hb9, hc9, hm9, -⟩; replace sh := Hp.gain sh hb9 hn9 hr9; clear hn9 hr9 hb9); refine hK _ _ _ _ _ _ (fun _ q => (Hp.Sh.drop1 q)) (fun _ q => q.imp fun W h => h.2) sh ?_; clear hK K; clear sh; (try clear F); (try simp only [Act.put, Hp.p1, Hp.p2, Hp.p3])
        (refine Hp.tks (i := 7) (oi := ⟨some 46, Op.move (Operand.tmp 53), _, _, _, none⟩) (fun _ q => (Hp.Sh.drop1 q)) ?_)
        (refine Hp.tks (i := 8) (oi := ⟨some 54, Op.extract (Operand.tmp 46) 0, _, _, _, none⟩) (fun _ q => (Hp.Sh.drop1 q)) ?_)
        (refine Hp.tks (i := 9) (oi := ⟨some 55, Op.extract (Operand.tmp 46) 1, _, _, _, none⟩) (fun _ q => (Hp.Sh.drop1 q)) ?_)
        (refine Hp.tks (i := 10) (oi := ⟨some 56, Op.extract (Operand.tmp 46) 2, _, _, _, none⟩) (fun _ q => (Hp.Sh.drop1 q)) ?_)
        (refine Hp.tks (i := 12) (oi := ⟨some 10, Op.assign (Operand.tmp 54), _, _, _, none⟩) (fun _ q => (Hp.Sh.drop1 q)) ?_)
        refine Hp.soft_make (i := 13) (o := ⟨none, Op.store 23 (Operand.tmp 11) (Operand.tmp 55), _, _, _, none⟩) (by kernel_rfl) rfl (by rfl) (fun w1 sh K hK => ?_); (try clear F); (try have F := Hp.Sh.facts sh); (try simp only [Hp.Facts, Hp.CellsAt, BatP.cellsAt_bt, Nat.reduceAdd, Hp.c1, Hp.c2] at F); (refine Hp.bst_arr 0 sh rfl rfl rfl HDG.out (by kernel_rfl) ?_; clear sh; (try clear F); go_simp; intro w1 sh; (have F := sh.fxb)); refine hK _ _ _ _ _ _ (fun _ q => (Hp.Sh.drop1 q)) (fun _ q => q) sh ?_; clear hK K; clear sh; (try clear F); (try simp only [Act.put, Hp.p1, Hp.p2, Hp.p3])
        (refine Hp.tks (i := 14) (oi := ⟨some 12, Op.assign (Operand.tmp 56), _, _, _, none⟩) (fun _ q => (Hp.Sh.drop1 q)) ?_)
        refine Hp.soft_done (by kernel_rfl) (fun w1 sh => ?_) _; (try clear F); (try have F := Hp.Sh.facts sh); (try simp only [Hp.Facts, Hp.CellsAt, BatP.cellsAt_bt, Nat.reduceAdd, Hp.c1, Hp.c2] at F)
        (go_wp2_with fail; go_meet; (case rel => exact ⟨b11, s2, c2, rfl, rfl, rfl, hc9, sh⟩))
    case rest =>
      clear sh F
      obtain ⟨b11, s2, c2, rfl, rfl, rfl, hc2, sh⟩ := hcut
      have F := sh.fxb
      go_wp2_with (first
          | ((with_reducible first | refine Hp.wpl_box sh ?_ ?_ | refine Hp.wpa sh ?_ ?_ | refine Hp.atl_store ?_ ?_); exact rfl; (try (refine Hp.wsB sh ?_)); clear sh; (try clear F); go_simp; (first | intro b w1 sh | intro w1 sh); have F := sh.fxb)
          | fail)
      go_upto_region 8 with (fail)
      go_cut [13, 14, 15] from 13 to 74 (fun t13 t14 t15 wx => ∃ (b14 : Nat) (s3 : Option Addr) (c3 : Nat), t13 = .slice s3 m c3 ∧ t14 = .pointer (some ⟨b14, 0, none⟩) ∧ t15 = .int .i64 0 ∧ m ≤ c3 ∧ Hp.Sh w wx [(b14, BatP.bA mid, 23), (b11, BatP.bA d, 23), (b4, BatP.bA a, 23)] (fun W => Hp.RdV W s3 ((E.take m).flatMap EvP.evc) ∧ Hp.RdV W s2 ((E.take K).flatMap EvP.evc) ∧ Hp.RdV W (some pt) (L.map ChnP.txc) ∧ Hp.RdV W (some pp) (E.flatMap EvP.evc) ∧ Hp.RdV W t (Z.map (Value.int .i64)) ∧ Hp.RdV W (some ⟨0, 0, none⟩) (DigP.wds DigP.consts)))
      case first =>
        refine Hp.region_soft (by kernel_rfl) sh (fun _ q => q) ?_; clear sh; (try clear F)
        (try simp only [Hp.p2, Hp.p3])
        (refine Hp.tk (i := 0) (oi := ⟨some 63, Op.load 23 (Operand.tmp 4), _, _, _, none⟩) _ (fun _ q => q) (fun W hW => (Hp.bexec_load 1 hW rfl rfl (by kernel_rfl) (BatP.dg_size HAL.out))) ?_)
        (refine Hp.tks (i := 1) (oi := ⟨some 64, Op.move (Operand.tmp 1), _, _, _, none⟩) (fun _ q => q) ?_)
        (refine Hp.tks (i := 2) (oi := ⟨some 65, Op.indexAddr 24 (Operand.tmp 64) (Operand.const (Value.int IntKind.i64 0)), _, _, _, none⟩) (fun _ q => q) ?_)
        (refine Hp.tks (i := 3) (oi := ⟨some 66, Op.fieldAddr 47 (Operand.tmp 65) 0, _, _, _, none⟩) (fun _ q => q) ?_)
        (refine Hp.tk (i := 4) (oi := ⟨some 67, Op.load 25 (Operand.tmp 66), _, _, _, none⟩) _ (fun _ q => q) (fun W hW => by (have F := Hp.Sh.facts hW); (have hd := Hp.Sh.data hW); (try simp only [Hp.Facts, Hp.CellsAt, BatP.cellsAt_bt, Nat.reduceAdd, Hp.c1, Hp.c2] at F); have hcf := HC0.out _ hd.2.2.1; go_simp; (try with_reducible rfl)) ?_)
        (refine Hp.tks (i := 5) (oi := ⟨some 68, Op.move (Operand.tmp 9), _, _, _, none⟩) (fun _ q => q) ?_)
        (refine Hp.tks (i := 6) (oi := ⟨some 69, Op.move (Operand.tmp 3), _, _, _, none⟩) (fun _ q => q) ?_)
        (refine Hp.tk (i := 7) (oi := ⟨some 70, Op.slice 34 (Operand.tmp 68) none (some (Operand.tmp 69)) none, _, _, _, none⟩) _ (fun _ q => q) (fun W hW => (Hp.exec_cut_h Tryd.underlying34 Tryd.s_str kk rfl rfl hkc)) ?_)
        refine Hp.soft_two (i := 8) (j := 13) (by kernel_rfl) ?_ ?_
        · refine Hp.soft_step (o := ⟨some 71, Op.call { callee := Callee.value (Operand.func 14), args := #[Operand.tmp 63, Operand.tmp 67, Operand.tmp 70], argTypes := #[23, 25, 34] }, _, _, _, none⟩) rfl (by rfl) (fun w1 sh K hK => ?_); (try clear F); (try have F := Hp.Sh.facts sh); (try simp only [Hp.Facts, Hp.CellsAt, BatP.cellsAt_bt, Nat.reduceAdd, Hp.c1, Hp.c2] at F); (go_simp; go_fit (K8.out _ _ _ (ChnP.txtake_rdv sh.data.2.1 kk) sh.data.2.2.2.2); rintro e w1 ⟨s3, c3, rfl, hn9, hr9, hb9, hc9, hm9, -⟩; replace sh := Hp.gain sh hb9 hn9 hr9; clear hn9 hr9 hb9); refine hK _ _ _ _ _ _ (fun _ q => q) (fun _ q => q.imp fun W h => h.2) sh ?_; clear hK K; clear sh; (try clear F); (try simp only [Act.put, Hp.p1, Hp.p2, Hp.p3])
          (refine Hp.tks (i := 9) (oi := ⟨some 62, Op.move (Operand.tmp 71), _, _, _, none⟩) (fun _ q => q) ?_)
          (refine Hp.tks (i := 10) (oi := ⟨some 72, Op.extract (Operand.tmp 62) 0, _, _, _, none⟩) (fun _ q => q) ?_)
          (refine Hp.tks (i := 11) (oi := ⟨some 73, Op.extract (Operand.tmp 62) 1, _, _, _, none⟩) (fun _ q => q) ?_)
          (refine Hp.tks (i := 12) (oi := ⟨some 74, Op.extract (Operand.tmp 62) 2, _, _, _, none⟩) (fun _ q => q) ?_)
          refine Hp.soft_make (i := 13) (o := ⟨some 14, Op.alloc 23, _, _, _, none⟩) (by kernel_rfl) rfl (by rfl) (fun w1 sh K hK => ?_); (try clear F); (try have F := Hp.Sh.facts sh); (try simp only [Hp.Facts, Hp.CellsAt, BatP.cellsAt_bt, Nat.reduceAdd, Hp.c1, Hp.c2] at F); (refine Hp.wp_alloc Tryd.z_dg sh ?_; clear sh; (try clear F); go_simp; intro b14 w1 sh; (have F := sh.fxb)); refine hK _ _ _ _ _ _ (fun _ q => (Hp.Sh.drop1 q)) (fun _ q => q) sh ?_; clear hK K; clear sh; (try clear F); (try simp only [Act.put, Hp.p1, Hp.p2, Hp.p3])
          (refine Hp.tks (i := 14) (oi := ⟨some 13, Op.assign (Operand.tmp 72), _, _, _, none⟩) (fun _ q => (Hp.Sh.drop1 q)) ?_)
          refine Hp.soft_make (i := 15) (o := ⟨none, Op.store 23 (Operand.tmp 14) (Operand.tmp 73), _, _, _, none⟩) (by kernel_rfl) rfl (by rfl) (fun w1 sh K hK => ?_); (try clear F); (try have F := Hp.Sh.facts sh); (try simp only [Hp.Facts, Hp.CellsAt, BatP.cellsAt_bt, Nat.reduceAdd, Hp.c1, Hp.c2] at F); (refine Hp.bst_arr 0 sh rfl rfl rfl HMG.out (by kernel_rfl) ?_; clear sh; (try clear F); go_simp; intro w1 sh; (have F := sh.fxb)); refine hK _ _ _ _ _ _ (fun _ q => (Hp.Sh.drop1 q)) (fun _ q => q) sh ?_; clear hK K; clear sh; (try clear F); (try simp only [Act.put, Hp.p1, Hp.p2, Hp.p3])
          (refine Hp.tks (i := 16) (oi := ⟨some 15, Op.assign (Operand.tmp 74), _, _, _, none⟩) (fun _ q => (Hp.Sh.drop1 q)) ?_)
          refine Hp.soft_done (by kernel_rfl) (fun w1 sh => ?_) _; (try clear F); (try have F := Hp.Sh.facts sh); (try simp only [Hp.Facts, Hp.CellsAt, BatP.cellsAt_bt, Nat.reduceAdd, Hp.c1, Hp.c2] at F)
          (go_wp2_with fail; go_meet; (case rel => exact ⟨b14, s3, c3, rfl, rfl, rfl, hc9, sh⟩))
        · refine Hp.soft_step (o := ⟨some 14, Op.alloc 23, _, _, _, none⟩) rfl (by rfl) (fun w1 sh K hK => ?_); (try clear F); (try have F := Hp.Sh.facts sh); (try simp only [Hp.Facts, Hp.CellsAt, BatP.cellsAt_bt, Nat.reduceAdd, Hp.c1, Hp.c2] at F); (refine Hp.wp_alloc Tryd.z_dg sh ?_; clear sh; (try clear F); go_simp; intro b14 w1 sh; (have F := sh.fxb)); refine hK _ _ _ _ _ _ (fun _ q => (Hp.Sh.drop1 q)) (fun _ q => q) sh ?_; clear hK K; clear sh; (try clear F); (try simp only [Act.put, Hp.p1, Hp.p2, Hp.p3])
          refine Hp.soft_make (i := 8) (o := ⟨some 71, Op.call { callee := Callee.value (Operand.func 14), args := #[Operand.tmp 63, Operand.tmp 67, Operand.tmp 70], argTypes := #[23, 25, 34] }, _, _, _, none⟩) (by kernel_rfl) rfl (by rfl) (fun w1 sh K hK => ?_); (try clear F); (try have F := Hp.Sh.facts sh); (try simp only [Hp.Facts, Hp.CellsAt, BatP.cellsAt_bt, Nat.reduceAdd, Hp.c1, Hp.c2] at F); (go_simp; go_fit (K8.out _ _ _ (ChnP.txtake_rdv sh.data.2.1 kk) sh.data.2.2.2.2); rintro e w1 ⟨s3, c3, rfl, hn9, hr9, hb9, hc9, hm9, -⟩; replace sh := Hp.gain sh hb9 hn9 hr9; clear hn9 hr9 hb9); refine hK _ _ _ _ _ _ (fun _ q => (Hp.Sh.drop1 q)) (fun _ q => q.imp fun W h => h.2) sh ?_; clear hK K; clear sh; (try clear F); (try simp only [Act.put, Hp.p1, Hp.p2, Hp.p3])
          (refine Hp.tks (i := 9) (oi := ⟨some 62, Op.move (Operand.tmp 71), _, _, _, none⟩) (fun _ q => (Hp.Sh.drop1 q)) ?_)
          (refine Hp.tks (i := 10) (oi := ⟨some 72, Op.extract (Operand.tmp 62) 0, _, _, _, none⟩) (fun _ q => (Hp.Sh.drop1 q)) ?_)
          (refine Hp.tks (i := 11) (oi := ⟨some 73, Op.extract (Operand.tmp 62) 1, _, _, _, none⟩) (fun _ q => (Hp.Sh.drop1 q)) ?_)
          (refine Hp.tks (i := 12) (oi := ⟨some 74, Op.extract (Operand.tmp 62) 2, _, _, _, none⟩) (fun _ q => (Hp.Sh.drop1 q)) ?_)
          (refine Hp.tks (i := 14) (oi := ⟨some 13, Op.assign (Operand.tmp 72), _, _, _, none⟩) (fun _ q => (Hp.Sh.drop1 q)) ?_)
          refine Hp.soft_make (i := 15) (o := ⟨none, Op.store 23 (Operand.tmp 14) (Operand.tmp 73), _, _, _, none⟩) (by kernel_rfl) rfl (by rfl) (fun w1 sh K hK => ?_); (try clear F); (try have F := Hp.Sh.facts sh); (try simp only [Hp.Facts, Hp.CellsAt, BatP.cellsAt_bt, Nat.reduceAdd, Hp.c1, Hp.c2] at F); (refine Hp.bst_arr 0 sh rfl rfl rfl HMG.out (by kernel_rfl) ?_; clear sh; (try clear F); go_simp; intro w1 sh; (have F := sh.fxb)); refine hK _ _ _ _ _ _ (fun _ q => (Hp.Sh.drop1 q)) (fun _ q => q) sh ?_; clear hK K; clear sh; (try clear F); (try simp only [Act.put, Hp.p1, Hp.p2, Hp.p3])
          (refine Hp.tks (i := 16) (oi := ⟨some 15, Op.assign (Operand.tmp 74), _, _, _, none⟩) (fun _ q => (Hp.Sh.drop1 q)) ?_)
          refine Hp.soft_done (by kernel_rfl) (fun w1 sh => ?_) _; (try clear F); (try have F := Hp.Sh.facts sh); (try simp only [Hp.Facts, Hp.CellsAt, BatP.cellsAt_bt, Nat.reduceAdd, Hp.c1, Hp.c2] at F)
          (go_wp2_with fail; go_meet; (case rel => exact ⟨b14, s3, c3, rfl, rfl, rfl, hc9, sh⟩))
      case rest =>
        clear sh F
        obtain ⟨b14, s3, c3, rfl, rfl, rfl, hc3, sh⟩ := hcut
        by_cases hlast : kk < r
        · have hlI : (kk : Int) < (r : Int) := by omega
          have F := sh.fxb
          go_wp2_with (first
              | ((with_reducible first | refine Hp.wpl_box sh ?_ ?_ | refine Hp.wpa sh ?_ ?_ | refine Hp.atl_store ?_ ?_); exact rfl; (try (refine Hp.wsB sh ?_)); clear sh; (try clear F); go_simp; (first | intro b w1 sh | intro w1 sh); have F := sh.fxb)
              | fail)
          go_upto_region 12 with (fail)
          go_cut [16, 17, 18] from 16 to 115 (fun t16 t17 t18 wx => ∃ (b17 : Nat) (s5 : Option Addr) (c5 : Nat), t16 = .slice s5 (K - m) c5 ∧ t17 = .pointer (some ⟨b17, 0, none⟩) ∧ t18 = .int .i64 0 ∧ K - m ≤ c5 ∧ Hp.Sh w wx [(b17, BatP.bA d, 23), (b14, BatP.bA mid, 23), (b11, BatP.bA d, 23), (b4, BatP.bA a, 23)] (fun W => Hp.RdV W s5 (((E.take K).drop m).flatMap EvP.evc) ∧ Hp.RdV W s3 ((E.take m).flatMap EvP.evc) ∧ Hp.RdV W s2 ((E.take K).flatMap EvP.evc) ∧ Hp.RdV W (some pt) (L.map ChnP.txc) ∧ Hp.RdV W (some pp) (E.flatMap EvP.evc) ∧ Hp.RdV W t (Z.map (Value.int .i64)) ∧ Hp.RdV W (some ⟨0, 0, none⟩) (DigP.wds DigP.consts)))
          case first =>
            refine Hp.region_soft (by kernel_rfl) sh (fun _ q => q) ?_; clear sh; (try clear F)
            (try simp only [Hp.p2, Hp.p3])
            (refine Hp.tk (i := 0) (oi := ⟨some 100, Op.load 23 (Operand.tmp 14), _, _, _, none⟩) _ (fun _ q => q) (fun W hW => (Hp.bexec_load 0 hW rfl rfl (by kernel_rfl) (BatP.dg_size HML.out))) ?_)
            (refine Hp.tks (i := 1) (oi := ⟨some 101, Op.move (Operand.tmp 1), _, _, _, none⟩) (fun _ q => q) ?_)
            (refine Hp.tks (i := 2) (oi := ⟨some 102, Op.indexAddr 24 (Operand.tmp 101) (Operand.const (Value.int IntKind.i64 0)), _, _, _, none⟩) (fun _ q => q) ?_)
            (refine Hp.tks (i := 3) (oi := ⟨some 103, Op.fieldAddr 47 (Operand.tmp 102) 0, _, _, _, none⟩) (fun _ q => q) ?_)
            (refine Hp.tk (i := 4) (oi := ⟨some 104, Op.load 25 (Operand.tmp 103), _, _, _, none⟩) _ (fun _ q => q) (fun W hW => by (have F := Hp.Sh.facts hW); (have hd := Hp.Sh.data hW); (try simp only [Hp.Facts, Hp.CellsAt, BatP.cellsAt_bt, Nat.reduceAdd, Hp.c1, Hp.c2] at F); have hcf := HC0.out _ hd.2.2.2.1; go_simp; (try with_reducible rfl)) ?_)
            (refine Hp.tks (i := 5) (oi := ⟨some 105, Op.move (Operand.tmp 13), _, _, _, none⟩) (fun _ q => q) ?_)
            (refine Hp.tks (i := 6) (oi := ⟨some 106, Op.call { callee := Callee.builtin Builtin.len, args := #[Operand.tmp 105], argTypes := #[24] }, _, _, _, none⟩) (fun _ q => q) ?_)
            (refine Hp.tks (i := 7) (oi := ⟨some 107, Op.convert 3 25 (Operand.tmp 106), _, _, _, none⟩) (fun _ q => q) ?_)
            (refine Hp.tks (i := 8) (oi := ⟨some 108, Op.binOp BinOp.add 25 (Operand.tmp 104) (Operand.tmp 107) 25, _, _, _, none⟩) (fun _ q => q) ?_)
            (refine Hp.tks (i := 9) (oi := ⟨some 109, Op.move (Operand.tmp 9), _, _, _, none⟩) (fun _ q => q) ?_)
            (refine Hp.tks (i := 10) (oi := ⟨some 110, Op.move (Operand.tmp 3), _, _, _, none⟩) (fun _ q => q) ?_)
            (refine Hp.tk (i := 11) (oi := ⟨some 111, Op.slice 34 (Operand.tmp 109) (some (Operand.tmp 110)) none none, _, _, _, none⟩) _ (fun _ q => q) (fun W hW => (Hp.exec_cut_l Tryd.underlying34 Tryd.s_str kk rfl rfl hkr)) ?_)
            refine Hp.soft_two (i := 12) (j := 17) (by kernel_rfl) ?_ ?_
            · refine Hp.soft_step (o := ⟨some 112, Op.call { callee := Callee.value (Operand.func 14), args := #[Operand.tmp 100, Operand.tmp 108, Operand.tmp 111], argTypes := #[23, 25, 34] }, _, _, _, none⟩) rfl (by rfl) (fun w1 sh K hK => ?_); (try clear F); (try have F := Hp.Sh.facts sh); (try simp only [Hp.Facts, Hp.CellsAt, BatP.cellsAt_bt, Nat.reduceAdd, Hp.c1, Hp.c2] at F); (go_simp; go_fit (K12.out _ _ _ (ChnP.txdrop_rdv sh.data.2.2.1 kk (by rw [HLL.out]; exact hc1)) sh.data.2.2.2.2.2); rintro e w1 ⟨s5, c5, rfl, hn9, hr9, hb9, hc9, hm9, -⟩; replace sh := Hp.gain sh hb9 hn9 hr9; clear hn9 hr9 hb9); refine hK _ _ _ _ _ _ (fun _ q => q) (fun _ q => q.imp fun W h => h.2) sh ?_; clear hK K; clear sh; (try clear F); (try simp only [Act.put, Hp.p1, Hp.p2, Hp.p3])
              (refine Hp.tks (i := 13) (oi := ⟨some 99, Op.move (Operand.tmp 112), _, _, _, none⟩) (fun _ q => q) ?_)
              (refine Hp.tks (i := 14) (oi := ⟨some 113, Op.extract (Operand.tmp 99) 0, _, _, _, none⟩) (fun _ q => q) ?_)
              (refine Hp.tks (i := 15) (oi := ⟨some 114, Op.extract (Operand.tmp 99) 1, _, _, _, none⟩) (fun _ q => q) ?_)
              (refine Hp.tks (i := 16) (oi := ⟨some 115, Op.extract (Operand.tmp 99) 2, _, _, _, none⟩) (fun _ q => q) ?_)
              refine Hp.soft_make (i := 17) (o := ⟨some 17, Op.alloc 23, _, _, _, none⟩) (by kernel_rfl) rfl (by rfl) (fun w1 sh K hK => ?_); (try clear F); (try have F := Hp.Sh.facts sh); (try simp only [Hp.Facts, Hp.CellsAt, BatP.cellsAt_bt, Nat.reduceAdd, Hp.c1, Hp.c2] at F); (refine Hp.wp_alloc Tryd.z_dg sh ?_; clear sh; (try clear F); go_simp; intro b17 w1 sh; (have F := sh.fxb)); refine hK _ _ _ _ _ _ (fun _ q => (Hp.Sh.drop1 q)) (fun _ q => q) sh ?_; clear hK K; clear sh; (try clear F); (try simp only [Act.put, Hp.p1, Hp.p2, Hp.p3])
              (refine Hp.tks (i := 18) (oi := ⟨some 16, Op.assign (Operand.tmp 113), _, _, _, none⟩) (fun _ q => (Hp.Sh.drop1 q)) ?_)
              refine Hp.soft_make (i := 19) (o := ⟨none, Op.store 23 (Operand.tmp 17) (Operand.tmp 114), _, _, _, none⟩) (by kernel_rfl) rfl (by rfl) (fun w1 sh K hK => ?_); (try clear F); (try have F := Hp.Sh.facts sh); (try simp only [Hp.Facts, Hp.CellsAt, BatP.cellsAt_bt, Nat.reduceAdd, Hp.c1, Hp.c2] at F); (refine Hp.bst_arr 0 sh rfl rfl rfl HDG.out (by kernel_rfl) ?_; clear sh; (try clear F); go_simp; intro w1 sh; (have F := sh.fxb)); refine hK _ _ _ _ _ _ (fun _ q => (Hp.Sh.drop1 q)) (fun _ q => q) sh ?_; clear hK K; clear sh; (try clear F); (try simp only [Act.put, Hp.p1, Hp.p2, Hp.p3])
              (refine Hp.tks (i := 20) (oi := ⟨some 18, Op.assign (Operand.tmp 115), _, _, _, none⟩) (fun _ q => (Hp.Sh.drop1 q)) ?_)
              refine Hp.soft_done (by kernel_rfl) (fun w1 sh => ?_) _; (try clear F); (try have F := Hp.Sh.facts sh); (try simp only [Hp.Facts, Hp.CellsAt, BatP.cellsAt_bt, Nat.reduceAdd, Hp.c1, Hp.c2] at F)
              (go_wp2_with fail; go_meet; (case rel => exact ⟨b17, s5, c5, rfl, rfl, rfl, hc9, sh⟩))
            · refine Hp.soft_step (o := ⟨some 17, Op.alloc 23, _, _, _, none⟩) rfl (by rfl) (fun w1 sh K hK => ?_); (try clear F); (try have F := Hp.Sh.facts sh); (try simp only [Hp.Facts, Hp.CellsAt, BatP.cellsAt_bt, Nat.reduceAdd, Hp.c1, Hp.c2] at F); (refine Hp.wp_alloc Tryd.z_dg sh ?_; clear sh; (try clear F); go_simp; intro b17 w1 sh; (have F := sh.fxb)); refine hK _ _ _ _ _ _ (fun _ q => (Hp.Sh.drop1 q)) (fun _ q => q) sh ?_; clear hK K; clear sh; (try clear F); (try simp only [Act.put, Hp.p1, Hp.p2, Hp.p3])
              refine Hp.soft_make (i := 12) (o := ⟨some 112, Op.call { callee := Callee.value (Operand.func 14), args := #[Operand.tmp 100, Operand.tmp 108, Operand.tmp 111], argTypes := #[23, 25, 34] }, _, _, _, none⟩) (by kernel_rfl) rfl (by rfl) (fun w1 sh K hK => ?_); (try clear F); (try have F := Hp.Sh.facts sh); (try simp only [Hp.Facts, Hp.CellsAt, BatP.cellsAt_bt, Nat.reduceAdd, Hp.c1, Hp.c2] at F); (go_simp; go_fit (K12.out _ _ _ (ChnP.txdrop_rdv sh.data.2.2.1 kk (by rw [HLL.out]; exact hc1)) sh.data.2.2.2.2.2); rintro e w1 ⟨s5, c5, rfl, hn9, hr9, hb9, hc9, hm9, -⟩; replace sh := Hp.gain sh hb9 hn9 hr9; clear hn9 hr9 hb9); refine hK _ _ _ _ _ _ (fun _ q => (Hp.Sh.drop1 q)) (fun _ q => q.imp fun W h => h.2) sh ?_; clear hK K; clear sh; (try clear F); (try simp only [Act.put, Hp.p1, Hp.p2, Hp.p3])
              (refine Hp.tks (i := 13) (oi := ⟨some 99, Op.move (Operand.tmp 112), _, _, _, none⟩) (fun _ q => (Hp.Sh.drop1 q)) ?_)
              (refine Hp.tks (i := 14) (oi := ⟨some 113, Op.extract (Operand.tmp 99) 0, _, _, _, none⟩) (fun _ q => (Hp.Sh.drop1 q)) ?_)
              (refine Hp.tks (i := 15) (oi := ⟨some 114, Op.extract (Operand.tmp 99) 1, _, _, _, none⟩) (fun _ q => (Hp.Sh.drop1 q)) ?_)
              (refine Hp.tks (i := 16) (oi := ⟨some 115, Op.extract (Operand.tmp 99) 2, _, _, _, none⟩) (fun _ q => (Hp.Sh.drop1 q)) ?_)
              (refine Hp.tks (i := 18) (oi := ⟨some 16, Op.assign (Operand.tmp 113), _, _, _, none⟩) (fun _ q => (Hp.Sh.drop1 q)) ?_)
              refine Hp.soft_make (i := 19) (o := ⟨none, Op.store 23 (Operand.tmp 17) (Operand.tmp 114), _, _, _, none⟩) (by kernel_rfl) rfl (by rfl) (fun w1 sh K hK => ?_); (try clear F); (try have F := Hp.Sh.facts sh); (try simp only [Hp.Facts, Hp.CellsAt, BatP.cellsAt_bt, Nat.reduceAdd, Hp.c1, Hp.c2] at F); (refine Hp.bst_arr 0 sh rfl rfl rfl HDG.out (by kernel_rfl) ?_; clear sh; (try clear F); go_simp; intro w1 sh; (have F := sh.fxb)); refine hK _ _ _ _ _ _ (fun _ q => (Hp.Sh.drop1 q)) (fun _ q => q) sh ?_; clear hK K; clear sh; (try clear F); (try simp only [Act.put, Hp.p1, Hp.p2, Hp.p3])
              (refine Hp.tks (i := 20) (oi := ⟨some 18, Op.assign (Operand.tmp 115), _, _, _, none⟩) (fun _ q => (Hp.Sh.drop1 q)) ?_)
              refine Hp.soft_done (by kernel_rfl) (fun w1 sh => ?_) _; (try clear F); (try have F := Hp.Sh.facts sh); (try simp only [Hp.Facts, Hp.CellsAt, BatP.cellsAt_bt, Nat.reduceAdd, Hp.c1, Hp.c2] at F)
              (go_wp2_with fail; go_meet; (case rel => exact ⟨b17, s5, c5, rfl, rfl, rfl, hc9, sh⟩))
          case rest =>
            clear sh F
            obtain ⟨b17, s5, c5, rfl, rfl, rfl, hc5, sh⟩ := hcut
            have F := sh.fxb
            go_wp2_with (first
                | ((with_reducible refine Hp.at_ld 23 ?_); (first | refine Hp.bld_g 0 sh rfl rfl rfl (by kernel_rfl) (BatP.dg_size HAL.out) ?_ | refine Hp.bld_g 0 sh rfl rfl rfl (by kernel_rfl) (BatP.dg_size HDL.out) ?_ | refine Hp.bld_g 0 sh rfl rfl rfl (by kernel_rfl) (BatP.dg_size HML.out) ?_ | refine Hp.bld_g 1 sh rfl rfl rfl (by kernel_rfl) (BatP.dg_size HAL.out) ?_ | refine Hp.bld_g 1 sh rfl rfl rfl (by kernel_rfl) (BatP.dg_size HDL.out) ?_ | refine Hp.bld_g 1 sh rfl rfl rfl (by kernel_rfl) (BatP.dg_size HML.out) ?_ | refine Hp.bld_g 2 sh rfl rfl rfl (by kernel_rfl) (BatP.dg_size HAL.out) ?_ | refine Hp.bld_g 2 sh rfl rfl rfl (by kernel_rfl) (BatP.dg_size HDL.out) ?_ | refine Hp.bld_g 2 sh rfl rfl rfl (by kernel_rfl) (BatP.dg_size HML.out) ?_ | refine Hp.bld_g 3 sh rfl rfl rfl (by kernel_rfl) (BatP.dg_size HAL.out) ?_ | refine Hp.bld_g 3 sh rfl rfl rfl (by kernel_rfl) (BatP.dg_size HDL.out) ?_ | refine Hp.bld_g 3 sh rfl rfl rfl (by kernel_rfl) (BatP.dg_size HML.out) ?_); (try simp only [Act.put, Hp.p1, Hp.p2, Hp.p3]))
                | ((with_reducible refine Hp.at_sll 24 ?_); (refine Hp.wpl_cut_l Tryd.underlying24 Tryd.s_evt m rfl rfl rfl hmK ?_); (try simp only [Act.put, Hp.p1, Hp.p2, Hp.p3]))
                | ((with_reducible first | refine Hp.wpl_box sh ?_ ?_ | refine Hp.wpa sh ?_ ?_ | refine Hp.atl_store ?_ ?_); exact rfl; (try (refine Hp.wsB sh ?_)); clear sh; (try clear F); go_simp; (first | intro b w1 sh | intro w1 sh); have F := sh.fxb)
                | fail)
            go_fit (KC.out _ _ _ _ _ sh.data.1 (ChnP.drop_rdv sh.data.2.2.1 m (by rw [List.length_take]; omega)))
            rintro e w1 ⟨rfl, hb⟩
            replace sh := sh.call hb; clear hb; (try clear F); have F := sh.fxb
            go_wp2_with (first
                | ((with_reducible first | refine Hp.wpl_box sh ?_ ?_ | refine Hp.wpa sh ?_ ?_ | refine Hp.atl_store ?_ ?_); exact rfl; (try (refine Hp.wsB sh ?_)); clear sh; (try clear F); go_simp; (first | intro b w1 sh | intro w1 sh); have F := sh.fxb)
                | fail)
            refine Hp.region_soft (by kernel_rfl) sh (fun _ q => q) ?_; clear sh; (try clear F)
            (try simp only [Hp.p2, Hp.p3])
            (refine Hp.cl (i := 0) (oi := ⟨some 132, Op.call { callee := Callee.value (Operand.func 11), args := #[], argTypes := #[] }, _, _, _, none⟩) _ _ _ (fun _ q => q) (fun W hW => by go_simp) (fun W hW => (KL.out W hW.data.2.2.2.2.2.2)) ?_)
            (refine Hp.tks (i := 1) (oi := ⟨some 133, Op.move (Operand.tmp 132), _, _, _, none⟩) (fun _ q => q) ?_)
            (first | (refine Hp.tks (i := 2) (oi := ⟨some 134, Op.move (Operand.tmp 10), _, _, _, some (1, true)⟩) (fun _ q => q) ?_) | (refine Hp.skp (i := 2) (oi := ⟨some 134, Op.move (Operand.tmp 10), _, _, _, some (1, true)⟩) (fun _ q => q) ?_))
            (first | (refine Hp.tks (i := 3) (oi := ⟨some 135, Op.move (Operand.tmp 1), _, _, _, some (1, true)⟩) (fun _ q => q) ?_) | (refine Hp.skp (i := 3) (oi := ⟨some 135, Op.move (Operand.tmp 1), _, _, _, some (1, true)⟩) (fun _ q => q) ?_))
            (first | (refine Hp.tks (i := 4) (oi := ⟨some 136, Op.move (Operand.tmp 10), _, _, _, some (1, true)⟩) (fun _ q => q) ?_) | (refine Hp.skp (i := 4) (oi := ⟨some 136, Op.move (Operand.tmp 10), _, _, _, some (1, true)⟩) (fun _ q => q) ?_))
            (first | (refine Hp.tks (i := 5) (oi := ⟨some 137, Op.call { callee := Callee.builtin Builtin.len, args := #[Operand.tmp 136], argTypes := #[24] }, _, _, _, some (1, true)⟩) (fun _ q => q) ?_) | (refine Hp.skp (i := 5) (oi := ⟨some 137, Op.call { callee := Callee.builtin Builtin.len, args := #[Operand.tmp 136], argTypes := #[24] }, _, _, _, some (1, true)⟩) (fun _ q => q) ?_))
            (first | (refine Hp.tk (i := 6) (oi := ⟨some 138, Op.slice 24 (Operand.tmp 135) none (some (Operand.tmp 137)) none, _, _, _, some (1, true)⟩) _ (fun _ q => q) (fun W hW => (Hp.exec_cut_h Tryd.underlying24 Tryd.s_evt K rfl rfl hKc)) ?_) | (refine Hp.skp (i := 6) (oi := ⟨some 138, Op.slice 24 (Operand.tmp 135) none (some (Operand.tmp 137)) none, _, _, _, some (1, true)⟩) (fun _ q => q) ?_))
            (first | (refine Hp.cl (i := 7) (oi := ⟨some 139, Op.call { callee := Callee.value (Operand.func 16), args := #[Operand.tmp 134, Operand.tmp 138], argTypes := #[24, 24] }, _, _, _, some (1, true)⟩) _ _ _ (fun _ q => q) (fun W hW => by go_simp) (fun W hW => (KA.out s2 (some pp) c2 c W hW.data.2.2.1 (ChnP.take_rdv hW.data.2.2.2.2.1 K))) ?_) | (refine Hp.skp (i := 7) (oi := ⟨some 139, Op.call { callee := Callee.value (Operand.func 16), args := #[Operand.tmp 134, Operand.tmp 138], argTypes := #[24, 24] }, _, _, _, some (1, true)⟩) (fun _ q => q) ?_))
            (refine Hp.tks (i := 8) (oi := ⟨some 140, Op.pick (Operand.tmp 133) (Operand.tmp 139) (Operand.const (Value.bool false)), _, _, _, none⟩) (fun _ q => q) ?_)
            (refine Hp.tks (i := 9) (oi := ⟨some 141, Op.move (Operand.tmp 140), _, _, _, none⟩) (fun _ q => q) ?_)
            (first | (refine Hp.tks (i := 10) (oi := ⟨some 142, Op.move (Operand.tmp 13), _, _, _, some (9, true)⟩) (fun _ q => q) ?_) | (refine Hp.skp (i := 10) (oi := ⟨some 142, Op.move (Operand.tmp 13), _, _, _, some (9, true)⟩) (fun _ q => q) ?_))
            (first | (refine Hp.tks (i := 11) (oi := ⟨some 143, Op.move (Operand.tmp 1), _, _, _, some (9, true)⟩) (fun _ q => q) ?_) | (refine Hp.skp (i := 11) (oi := ⟨some 143, Op.move (Operand.tmp 1), _, _, _, some (9, true)⟩) (fun _ q => q) ?_))
            (first | (refine Hp.tks (i := 12) (oi := ⟨some 144, Op.move (Operand.tmp 13), _, _, _, some (9, true)⟩) (fun _ q => q) ?_) | (refine Hp.skp (i := 12) (oi := ⟨some 144, Op.move (Operand.tmp 13), _, _, _, some (9, true)⟩) (fun _ q => q) ?_))
            (first | (refine Hp.tks (i := 13) (oi := ⟨some 145, Op.call { callee := Callee.builtin Builtin.len, args := #[Operand.tmp 144], argTypes := #[24] }, _, _, _, some (9, true)⟩) (fun _ q => q) ?_) | (refine Hp.skp (i := 13) (oi := ⟨some 145, Op.call { callee := Callee.builtin Builtin.len, args := #[Operand.tmp 144], argTypes := #[24] }, _, _, _, some (9, true)⟩) (fun _ q => q) ?_))
            (first | (refine Hp.tk (i := 14) (oi := ⟨some 146, Op.slice 24 (Operand.tmp 143) none (some (Operand.tmp 145)) none, _, _, _, some (9, true)⟩) _ (fun _ q => q) (fun W hW => (Hp.exec_cut_h Tryd.underlying24 Tryd.s_evt m rfl rfl hmc)) ?_) | (refine Hp.skp (i := 14) (oi := ⟨some 146, Op.slice 24 (Operand.tmp 143) none (some (Operand.tmp 145)) none, _, _, _, some (9, true)⟩) (fun _ q => q) ?_))
            (first | (refine Hp.cl (i := 15) (oi := ⟨some 147, Op.call { callee := Callee.value (Operand.func 16), args := #[Operand.tmp 142, Operand.tmp 146], argTypes := #[24, 24] }, _, _, _, some (9, true)⟩) _ _ _ (fun _ q => q) (fun W hW => by go_simp) (fun W hW => (KB.out s3 (some pp) c3 c W hW.data.2.1 (ChnP.take_rdv hW.data.2.2.2.2.1 m))) ?_) | (refine Hp.skp (i := 15) (oi := ⟨some 147, Op.call { callee := Callee.value (Operand.func 16), args := #[Operand.tmp 142, Operand.tmp 146], argTypes := #[24, 24] }, _, _, _, some (9, true)⟩) (fun _ q => q) ?_))
            (refine Hp.tks (i := 16) (oi := ⟨some 148, Op.pick (Operand.tmp 141) (Operand.tmp 147) (Operand.const (Value.bool false)), _, _, _, none⟩) (fun _ q => q) ?_)
            (refine Hp.tks (i := 17) (oi := ⟨some 149, Op.move (Operand.tmp 148), _, _, _, none⟩) (fun _ q => q) ?_)
            (first | (refine Hp.tk (i := 18) (oi := ⟨some 150, Op.load 23 (Operand.tmp 11), _, _, _, some (17, true)⟩) _ (fun _ q => q) (fun W hW => (Hp.bexec_load 2 hW rfl rfl (by kernel_rfl) (BatP.dg_size HDL.out))) ?_) | (refine Hp.skp (i := 18) (oi := ⟨some 150, Op.load 23 (Operand.tmp 11), _, _, _, some (17, true)⟩) (fun _ q => q) ?_))
            (first | (refine Hp.tks (i := 19) (oi := ⟨some 151, Op.move (Operand.tmp 9), _, _, _, some (17, true)⟩) (fun _ q => q) ?_) | (refine Hp.skp (i := 19) (oi := ⟨some 151, Op.move (Operand.tmp 9), _, _, _, some (17, true)⟩) (fun _ q => q) ?_))
            (first | (refine Hp.tks (i := 20) (oi := ⟨some 152, Op.move (Operand.tmp 9), _, _, _, some (17, true)⟩) (fun _ q => q) ?_) | (refine Hp.skp (i := 20) (oi := ⟨some 152, Op.move (Operand.tmp 9), _, _, _, some (17, true)⟩) (fun _ q => q) ?_))
            (first | (refine Hp.tks (i := 21) (oi := ⟨some 153, Op.call { callee := Callee.builtin Builtin.len, args := #[Operand.tmp 152], argTypes := #[34] }, _, _, _, some (17, true)⟩) (fun _ q => q) ?_) | (refine Hp.skp (i := 21) (oi := ⟨some 153, Op.call { callee := Callee.builtin Builtin.len, args := #[Operand.tmp 152], argTypes := #[34] }, _, _, _, some (17, true)⟩) (fun _ q => q) ?_))
            (first | (refine Hp.tks (i := 22) (oi := ⟨some 154, Op.binOp BinOp.sub 3 (Operand.tmp 153) (Operand.const (Value.int IntKind.i64 1)) 3, _, _, _, some (17, true)⟩) (fun _ q => q) ?_) | (refine Hp.skp (i := 22) (oi := ⟨some 154, Op.binOp BinOp.sub 3 (Operand.tmp 153) (Operand.const (Value.int IntKind.i64 1)) 3, _, _, _, some (17, true)⟩) (fun _ q => q) ?_))
            (first | (refine Hp.tks (i := 23) (oi := ⟨some 155, Op.indexAddr 34 (Operand.tmp 151) (Operand.tmp 154), _, _, _, some (17, true)⟩) (fun _ q => q) ?_) | (refine Hp.skp (i := 23) (oi := ⟨some 155, Op.indexAddr 34 (Operand.tmp 151) (Operand.tmp 154), _, _, _, some (17, true)⟩) (fun _ q => q) ?_))
            (first | (refine Hp.tk (i := 24) (oi := ⟨some 156, Op.load 9 (Operand.tmp 155), _, _, _, some (17, true)⟩) _ (fun _ q => q) (fun W hW => by (have F := Hp.Sh.facts hW); (have hd := Hp.Sh.data hW); (try simp only [Hp.Facts, Hp.CellsAt, BatP.cellsAt_bt, Nat.reduceAdd, Hp.c1, Hp.c2] at F); have hct := HCT.out _ hd.2.2.2.1; go_simp; (try with_reducible rfl)) ?_) | (refine Hp.skp (i := 24) (oi := ⟨some 156, Op.load 9 (Operand.tmp 155), _, _, _, some (17, true)⟩) (fun _ q => q) ?_))
            (first | (refine Hp.cl (i := 25) (oi := ⟨some 157, Op.call { callee := Callee.value (Operand.func 21), args := #[Operand.tmp 156], argTypes := #[9] }, _, _, _, some (17, true)⟩) _ _ _ (fun _ q => q) (fun W hW => by go_simp) (fun W hW => (KO.out W hW.data.2.2.2.2.2.2)) ?_) | (refine Hp.skp (i := 25) (oi := ⟨some 157, Op.call { callee := Callee.value (Operand.func 21), args := #[Operand.tmp 156], argTypes := #[9] }, _, _, _, some (17, true)⟩) (fun _ q => q) ?_))
            (first | (refine Hp.tks (i := 26) (oi := ⟨some 158, Op.binOp BinOp.eql 23 (Operand.tmp 150) (Operand.tmp 157) 23, _, _, _, some (17, true)⟩) (fun _ q => q) ?_) | (refine Hp.skp (i := 26) (oi := ⟨some 158, Op.binOp BinOp.eql 23 (Operand.tmp 150) (Operand.tmp 157) 23, _, _, _, some (17, true)⟩) (fun _ q => q) ?_))
            (refine Hp.tks (i := 27) (oi := ⟨some 159, Op.pick (Operand.tmp 149) (Operand.tmp 158) (Operand.const (Value.bool false)), _, _, _, none⟩) (fun _ q => q) ?_)
            (refine Hp.tks (i := 28) (oi := ⟨some 8, Op.assign (Operand.tmp 159), _, _, _, none⟩) (fun _ q => q) ?_)
            refine Hp.soft_done (by kernel_rfl) (fun w1 sh => ?_) _; (try clear F); (try have F := Hp.Sh.facts sh); (try simp only [Hp.Facts, Hp.CellsAt, BatP.cellsAt_bt, Nat.reduceAdd, Hp.c1, Hp.c2] at F)
            go_wp2_with (first
                | ((with_reducible first | refine Hp.wpl_box sh ?_ ?_ | refine Hp.wpa sh ?_ ?_ | refine Hp.atl_store ?_ ?_); exact rfl; (try (refine Hp.wsB sh ?_)); clear sh; (try clear F); go_simp; (first | intro b w1 sh | intro w1 sh); have F := sh.fxb)
                | fail)
            go_ret
            exact ⟨by first | rfl | simp, sh.below⟩
        · have hlI : ¬ (kk : Int) < (r : Int) := by omega
          have F := sh.fxb
          go_wp2_with (first
              | ((with_reducible first | refine Hp.wpl_box sh ?_ ?_ | refine Hp.wpa sh ?_ ?_ | refine Hp.atl_store ?_ ?_); exact rfl; (try (refine Hp.wsB sh ?_)); clear sh; (try clear F); go_simp; (first | intro b w1 sh | intro w1 sh); have F := sh.fxb)
              | fail)
          refine Hp.region_soft (by kernel_rfl) sh (fun _ q => q) ?_; clear sh; (try clear F)
          (try simp only [Hp.p2, Hp.p3])
          (refine Hp.cl (i := 0) (oi := ⟨some 132, Op.call { callee := Callee.value (Operand.func 11), args := #[], argTypes := #[] }, _, _, _, none⟩) _ _ _ (fun _ q => q) (fun W hW => by go_simp) (fun W hW => (KL.out W hW.data.2.2.2.2.2)) ?_)
          (refine Hp.tks (i := 1) (oi := ⟨some 133, Op.move (Operand.tmp 132), _, _, _, none⟩) (fun _ q => q) ?_)
          (first | (refine Hp.tks (i := 2) (oi := ⟨some 134, Op.move (Operand.tmp 10), _, _, _, some (1, true)⟩) (fun _ q => q) ?_) | (refine Hp.skp (i := 2) (oi := ⟨some 134, Op.move (Operand.tmp 10), _, _, _, some (1, true)⟩) (fun _ q => q) ?_))
          (first | (refine Hp.tks (i := 3) (oi := ⟨some 135, Op.move (Operand.tmp 1), _, _, _, some (1, true)⟩) (fun _ q => q) ?_) | (refine Hp.skp (i := 3) (oi := ⟨some 135, Op.move (Operand.tmp 1), _, _, _, some (1, true)⟩) (fun _ q => q) ?_))
          (first | (refine Hp.tks (i := 4) (oi := ⟨some 136, Op.move (Operand.tmp 10), _, _, _, some (1, true)⟩) (fun _ q => q) ?_) | (refine Hp.skp (i := 4) (oi := ⟨some 136, Op.move (Operand.tmp 10), _, _, _, some (1, true)⟩) (fun _ q => q) ?_))
          (first | (refine Hp.tks (i := 5) (oi := ⟨some 137, Op.call { callee := Callee.builtin Builtin.len, args := #[Operand.tmp 136], argTypes := #[24] }, _, _, _, some (1, true)⟩) (fun _ q => q) ?_) | (refine Hp.skp (i := 5) (oi := ⟨some 137, Op.call { callee := Callee.builtin Builtin.len, args := #[Operand.tmp 136], argTypes := #[24] }, _, _, _, some (1, true)⟩) (fun _ q => q) ?_))
          (first | (refine Hp.tk (i := 6) (oi := ⟨some 138, Op.slice 24 (Operand.tmp 135) none (some (Operand.tmp 137)) none, _, _, _, some (1, true)⟩) _ (fun _ q => q) (fun W hW => (Hp.exec_cut_h Tryd.underlying24 Tryd.s_evt K rfl rfl hKc)) ?_) | (refine Hp.skp (i := 6) (oi := ⟨some 138, Op.slice 24 (Operand.tmp 135) none (some (Operand.tmp 137)) none, _, _, _, some (1, true)⟩) (fun _ q => q) ?_))
          (first | (refine Hp.cl (i := 7) (oi := ⟨some 139, Op.call { callee := Callee.value (Operand.func 16), args := #[Operand.tmp 134, Operand.tmp 138], argTypes := #[24, 24] }, _, _, _, some (1, true)⟩) _ _ _ (fun _ q => q) (fun W hW => by go_simp) (fun W hW => (KA.out s2 (some pp) c2 c W hW.data.2.1 (ChnP.take_rdv hW.data.2.2.2.1 K))) ?_) | (refine Hp.skp (i := 7) (oi := ⟨some 139, Op.call { callee := Callee.value (Operand.func 16), args := #[Operand.tmp 134, Operand.tmp 138], argTypes := #[24, 24] }, _, _, _, some (1, true)⟩) (fun _ q => q) ?_))
          (refine Hp.tks (i := 8) (oi := ⟨some 140, Op.pick (Operand.tmp 133) (Operand.tmp 139) (Operand.const (Value.bool false)), _, _, _, none⟩) (fun _ q => q) ?_)
          (refine Hp.tks (i := 9) (oi := ⟨some 141, Op.move (Operand.tmp 140), _, _, _, none⟩) (fun _ q => q) ?_)
          (first | (refine Hp.tks (i := 10) (oi := ⟨some 142, Op.move (Operand.tmp 13), _, _, _, some (9, true)⟩) (fun _ q => q) ?_) | (refine Hp.skp (i := 10) (oi := ⟨some 142, Op.move (Operand.tmp 13), _, _, _, some (9, true)⟩) (fun _ q => q) ?_))
          (first | (refine Hp.tks (i := 11) (oi := ⟨some 143, Op.move (Operand.tmp 1), _, _, _, some (9, true)⟩) (fun _ q => q) ?_) | (refine Hp.skp (i := 11) (oi := ⟨some 143, Op.move (Operand.tmp 1), _, _, _, some (9, true)⟩) (fun _ q => q) ?_))
          (first | (refine Hp.tks (i := 12) (oi := ⟨some 144, Op.move (Operand.tmp 13), _, _, _, some (9, true)⟩) (fun _ q => q) ?_) | (refine Hp.skp (i := 12) (oi := ⟨some 144, Op.move (Operand.tmp 13), _, _, _, some (9, true)⟩) (fun _ q => q) ?_))
          (first | (refine Hp.tks (i := 13) (oi := ⟨some 145, Op.call { callee := Callee.builtin Builtin.len, args := #[Operand.tmp 144], argTypes := #[24] }, _, _, _, some (9, true)⟩) (fun _ q => q) ?_) | (refine Hp.skp (i := 13) (oi := ⟨some 145, Op.call { callee := Callee.builtin Builtin.len, args := #[Operand.tmp 144], argTypes := #[24] }, _, _, _, some (9, true)⟩) (fun _ q => q) ?_))
          (first | (refine Hp.tk (i := 14) (oi := ⟨some 146, Op.slice 24 (Operand.tmp 143) none (some (Operand.tmp 145)) none, _, _, _, some (9, true)⟩) _ (fun _ q => q) (fun W hW => (Hp.exec_cut_h Tryd.underlying24 Tryd.s_evt m rfl rfl hmc)) ?_) | (refine Hp.skp (i := 14) (oi := ⟨some 146, Op.slice 24 (Operand.tmp 143) none (some (Operand.tmp 145)) none, _, _, _, some (9, true)⟩) (fun _ q => q) ?_))
          (first | (refine Hp.cl (i := 15) (oi := ⟨some 147, Op.call { callee := Callee.value (Operand.func 16), args := #[Operand.tmp 142, Operand.tmp 146], argTypes := #[24, 24] }, _, _, _, some (9, true)⟩) _ _ _ (fun _ q => q) (fun W hW => by go_simp) (fun W hW => (KB.out s3 (some pp) c3 c W hW.data.1 (ChnP.take_rdv hW.data.2.2.2.1 m))) ?_) | (refine Hp.skp (i := 15) (oi := ⟨some 147, Op.call { callee := Callee.value (Operand.func 16), args := #[Operand.tmp 142, Operand.tmp 146], argTypes := #[24, 24] }, _, _, _, some (9, true)⟩) (fun _ q => q) ?_))
          (refine Hp.tks (i := 16) (oi := ⟨some 148, Op.pick (Operand.tmp 141) (Operand.tmp 147) (Operand.const (Value.bool false)), _, _, _, none⟩) (fun _ q => q) ?_)
          (refine Hp.tks (i := 17) (oi := ⟨some 149, Op.move (Operand.tmp 148), _, _, _, none⟩) (fun _ q => q) ?_)
          (first | (refine Hp.tk (i := 18) (oi := ⟨some 150, Op.load 23 (Operand.tmp 11), _, _, _, some (17, true)⟩) _ (fun _ q => q) (fun W hW => (Hp.bexec_load 1 hW rfl rfl (by kernel_rfl) (BatP.dg_size HDL.out))) ?_) | (refine Hp.skp (i := 18) (oi := ⟨some 150, Op.load 23 (Operand.tmp 11), _, _, _, some (17, true)⟩) (fun _ q => q) ?_))
          (first | (refine Hp.tks (i := 19) (oi := ⟨some 151, Op.move (Operand.tmp 9), _, _, _, some (17, true)⟩) (fun _ q => q) ?_) | (refine Hp.skp (i := 19) (oi := ⟨some 151, Op.move (Operand.tmp 9), _, _, _, some (17, true)⟩) (fun _ q => q) ?_))
          (first | (refine Hp.tks (i := 20) (oi := ⟨some 152, Op.move (Operand.tmp 9), _, _, _, some (17, true)⟩) (fun _ q => q) ?_) | (refine Hp.skp (i := 20) (oi := ⟨some 152, Op.move (Operand.tmp 9), _, _, _, some (17, true)⟩) (fun _ q => q) ?_))
          (first | (refine Hp.tks (i := 21) (oi := ⟨some 153, Op.call { callee := Callee.builtin Builtin.len, args := #[Operand.tmp 152], argTypes := #[34] }, _, _, _, some (17, true)⟩) (fun _ q => q) ?_) | (refine Hp.skp (i := 21) (oi := ⟨some 153, Op.call { callee := Callee.builtin Builtin.len, args := #[Operand.tmp 152], argTypes := #[34] }, _, _, _, some (17, true)⟩) (fun _ q => q) ?_))
          (first | (refine Hp.tks (i := 22) (oi := ⟨some 154, Op.binOp BinOp.sub 3 (Operand.tmp 153) (Operand.const (Value.int IntKind.i64 1)) 3, _, _, _, some (17, true)⟩) (fun _ q => q) ?_) | (refine Hp.skp (i := 22) (oi := ⟨some 154, Op.binOp BinOp.sub 3 (Operand.tmp 153) (Operand.const (Value.int IntKind.i64 1)) 3, _, _, _, some (17, true)⟩) (fun _ q => q) ?_))
          (first | (refine Hp.tks (i := 23) (oi := ⟨some 155, Op.indexAddr 34 (Operand.tmp 151) (Operand.tmp 154), _, _, _, some (17, true)⟩) (fun _ q => q) ?_) | (refine Hp.skp (i := 23) (oi := ⟨some 155, Op.indexAddr 34 (Operand.tmp 151) (Operand.tmp 154), _, _, _, some (17, true)⟩) (fun _ q => q) ?_))
          (first | (refine Hp.tk (i := 24) (oi := ⟨some 156, Op.load 9 (Operand.tmp 155), _, _, _, some (17, true)⟩) _ (fun _ q => q) (fun W hW => by (have F := Hp.Sh.facts hW); (have hd := Hp.Sh.data hW); (try simp only [Hp.Facts, Hp.CellsAt, BatP.cellsAt_bt, Nat.reduceAdd, Hp.c1, Hp.c2] at F); have hct := HCT.out _ hd.2.2.1; go_simp; (try with_reducible rfl)) ?_) | (refine Hp.skp (i := 24) (oi := ⟨some 156, Op.load 9 (Operand.tmp 155), _, _, _, some (17, true)⟩) (fun _ q => q) ?_))
          (first | (refine Hp.cl (i := 25) (oi := ⟨some 157, Op.call { callee := Callee.value (Operand.func 21), args := #[Operand.tmp 156], argTypes := #[9] }, _, _, _, some (17, true)⟩) _ _ _ (fun _ q => q) (fun W hW => by go_simp) (fun W hW => (KO.out W hW.data.2.2.2.2.2)) ?_) | (refine Hp.skp (i := 25) (oi := ⟨some 157, Op.call { callee := Callee.value (Operand.func 21), args := #[Operand.tmp 156], argTypes := #[9] }, _, _, _, some (17, true)⟩) (fun _ q => q) ?_))
          (first | (refine Hp.tks (i := 26) (oi := ⟨some 158, Op.binOp BinOp.eql 23 (Operand.tmp 150) (Operand.tmp 157) 23, _, _, _, some (17, true)⟩) (fun _ q => q) ?_) | (refine Hp.skp (i := 26) (oi := ⟨some 158, Op.binOp BinOp.eql 23 (Operand.tmp 150) (Operand.tmp 157) 23, _, _, _, some (17, true)⟩) (fun _ q => q) ?_))
          (refine Hp.tks (i := 27) (oi := ⟨some 159, Op.pick (Operand.tmp 149) (Operand.tmp 158) (Operand.const (Value.bool false)), _, _, _, none⟩) (fun _ q => q) ?_)
          (refine Hp.tks (i := 28) (oi := ⟨some 8, Op.assign (Operand.tmp 159), _, _, _, none⟩) (fun _ q => q) ?_)
          refine Hp.soft_done (by kernel_rfl) (fun w1 sh => ?_) _; (try clear F); (try have F := Hp.Sh.facts sh); (try simp only [Hp.Facts, Hp.CellsAt, BatP.cellsAt_bt, Nat.reduceAdd, Hp.c1, Hp.c2] at F)
          go_wp2_with (first
              | ((with_reducible first | refine Hp.wpl_box sh ?_ ?_ | refine Hp.wpa sh ?_ ?_ | refine Hp.atl_store ?_ ?_); exact rfl; (try (refine Hp.wsB sh ?_)); clear sh; (try clear F); go_simp; (first | intro b w1 sh | intro w1 sh); have F := sh.fxb)
              | fail)
          go_ret
          exact ⟨by first | rfl | simp, sh.below⟩

end Go.Proofs.YtfcffglgkblidaaDoor
