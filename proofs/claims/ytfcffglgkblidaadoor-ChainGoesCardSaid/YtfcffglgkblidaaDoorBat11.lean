
/-
  The walk of Put.
-/
import Derived.Test.YtfcffglgkblidaaDoorBat7
namespace Go.Proofs.YtfcffglgkblidaaDoor
open Go.RowKit
set_option linter.unusedVariables false
set_option linter.unusedSimpArgs false
namespace BatP
theorem evsL_next {l : List Ev} {j : Nat} (h : j < l.length) : evsL (l.take (j + 1)) = evsL (l.take j) ++ textL (EvP.putE l[j]) := by
  unfold evsL
  rw [List.take_succ_eq_append_getElem h, List.flatMap_append]
  simp
theorem putB_no {b : Ba} (h : isB b = false) : putB b = ([], 1) := by unfold putB; rw [if_neg (by rw [h]; simp)]
theorem putB_yes {b : Ba} (h : isB b = true) : putB b = (outL b, 0) := by unfold putB; rw [if_pos h]
theorem evsL_take {l : List Ev} (h : ∀ x ∈ l, EvP.isB x = true ∧ 0 ≤ x.1 ∧ x.1 ≤ 18446744073709551615) (j : Nat) : (evsL (l.take j)).length ≤ 31 * j := by
  have := evsL_len (l.take j) (fun x hx => h x (List.mem_of_mem_take hx))
  rw [List.length_take] at this
  omega
theorem textV_of {t : List UInt8} (h : t.length ≤ 65536) : WireP.textV t = .tuple #[.string (bstr (textL t)), .int .i64 0] := by
  unfold WireP.textV textL; rw [if_neg (by omega)]
theorem textL_pos (t : List UInt8) : 0 < (textL t).length := by
  have := WireP.putL_pos t.length
  unfold textL; rw [List.length_append]; omega
end BatP

set_option maxHeartbeats 4000000 in
set_option maxRecDepth 100000 in
theorem bput (f : Int) (s : Option Addr) (n c : Nat) (l : List EvP.Ev) (prev : List UInt8) (hp : prev.length = 32) (hf : 0 ≤ f ∧ f ≤ 18446744073709551615) (hn : n = l.length) (hnc : n ≤ c) (hm : n ≤ 9223372036854775807) (hE : ∀ x ∈ l, EvP.EvB x) (w : World) (hR : Hp.RdV w s (l.flatMap EvP.evc)) :
    Calls Tryd.prog 24 #[.agg (BatP.btA f (.slice s n c) prev)] w fun e w' => e = .returned (.tuple #[.string (bstr (BatP.putB (f, l, prev)).1), .int .i64 (BatP.putB (f, l, prev)).2]) ∧ Below w.heap.size w w' := by
  have sh := (Hp.Sh.start (RdV_rob hR) : Hp.Sh w w [] (fun W => Hp.RdV W s (l.flatMap EvP.evc)))
  have K1 := Lib.hid (fun W q => bis f s n c l prev hn hnc hm hE W q)
  have HPL := Lib.hid hp
  cases hb : BatP.isB (f, l, prev) with
  | false =>
    rw [hb] at K1
    have HX := Lib.hid (BatP.putB_no hb)
    clear hp hf hn hE hR hb
    go_enter Tryd.func24, Tryd.ntmps24
    have F := sh.fxb
    have tok_b1 : True := trivial
    go_wp2_with (first
        | ((with_reducible refine Hp.at_ld 27 ?_); (refine Hp.bld_g 0 sh rfl rfl rfl (by kernel_rfl) (BatP.bt_size HPL.out) ?_); go_simp)
        | ((with_reducible first | refine Hp.wpl_box sh ?_ ?_ | refine Hp.wpa sh ?_ ?_ | refine Hp.atl_store ?_ ?_); exact rfl; (try (refine Hp.wsB sh ?_)); clear sh; (try clear F); go_simp; (first | (have tok := tok_b1; clear tok tok_b1; intro b1 w1 sh) | intro b w1 sh | intro w1 sh); have F := sh.fxb)
        | fail)
    go_fit (K1.out _ sh.data)
    rintro e w1 ⟨rfl, hb⟩
    replace sh := sh.call hb; clear hb; (try clear F); have F := sh.fxb
    go_wp2_with (first
        | ((with_reducible first | refine Hp.wpl_box sh ?_ ?_ | refine Hp.wpa sh ?_ ?_ | refine Hp.atl_store ?_ ?_); exact rfl; (try (refine Hp.wsB sh ?_)); clear sh; (try clear F); go_simp; (first | intro b w1 sh | intro w1 sh); have F := sh.fxb)
        | fail)
    go_ret2
    exact ⟨by rw [HX.out]; rfl, sh.below⟩
  | true =>
    rw [hb] at K1
    have hi := BatP.isB_iff.1 hb
    dsimp only at hi
    have hok : BatP.Ok (f, l, prev) := ⟨hf, hp, fun x hx => (hE x hx).1⟩
    have hall := hok.all hb
    dsimp only at hall
    have HX := Lib.hid (BatP.putB_yes hb)
    have HALL := Lib.hid hall
    have HN := Lib.hid hn
    have HE := Lib.hid hE
    have KF := Lib.hid (fun W => wirePut_any f.toNat W (by omega))
    rw [show ((f.toNat : Nat) : Int) = f by omega] at KF
    have KN := Lib.hid (fun W => wirePut_any n W (by omega))
    have z1 : IntKind.u64.wrap (n : Int) = (n : Int) := by simp [IntKind.wrap, IntKind.bits, IntKind.signed]; omega
    have HPF := Lib.hid (And.intro (WireP.putL_pos f.toNat) (WireP.putL_le10 f.toNat (by omega)))
    have HPN := Lib.hid (And.intro (WireP.putL_pos n) (WireP.putL_le10 n (by omega)))
    have hn256 : n ≤ 256 := by omega
    have HBL := Lib.hid (BatP.body_len hok hb)
    have HR0 := Lib.hid (Hp.RowIs.nil 5 1)
    clear hp hf hn hE hR hb hi hok hall
    go_enter Tryd.func24, Tryd.ntmps24
    have F := sh.fxb
    have tok_b1 : True := trivial
    go_wp2_with (first
        | ((with_reducible refine Hp.at_ld 27 ?_); (refine Hp.bld_g 0 sh rfl rfl rfl (by kernel_rfl) (BatP.bt_size HPL.out) ?_); go_simp)
        | ((with_reducible first | refine Hp.wpl_box sh ?_ ?_ | refine Hp.wpa sh ?_ ?_ | refine Hp.atl_store ?_ ?_); exact rfl; (try (refine Hp.wsB sh ?_)); clear sh; (try clear F); go_simp; (first | (have tok := tok_b1; clear tok tok_b1; intro b1 w1 sh) | intro b w1 sh | intro w1 sh); have F := sh.fxb)
        | fail)
    go_fit (K1.out _ sh.data)
    rintro e w1 ⟨rfl, hb⟩
    replace sh := sh.call hb; clear hb; (try clear F); have F := sh.fxb
    go_wp2_with (first
        | ((with_reducible refine Hp.at_app_c ?_ ?_); exact rfl; (refine Hp.wp_append (R := []) (H := [_]) (news := bcells prev) Tryd.winfo_u8 Tryd.underlying51 (by decide) rfl (by decide) sh HR0.out rfl rfl (by rw [bcells_length, HPL.out]) (Hp.Sh.prev_rdv (i := 0) sh rfl) (fun h => by cases h) (Hp.ones_mem (BatP.ones_bcells _)) (by omega) ?_); clear sh; (try clear F); intro v1 R1 w1 sh hr; (replace hr : Hp.RowIs 5 1 v1 prev.length (bcells prev) R1 := by rw [HPL.out]; simpa using hr); obtain ⟨s1, c1, rfl, -, -, -⟩ := hr.slice; have HR1 := Lib.hid hr; clear hr; replace sh : Hp.Sh w _ (_ :: R1) _ := sh.perm List.perm_append_comm; (have F := sh.fxb); go_simp)
        | ((with_reducible first | refine Hp.wpl_box sh ?_ ?_ | refine Hp.wpa sh ?_ ?_ | refine Hp.atl_store ?_ ?_); exact rfl; (try (refine Hp.wsB sh ?_)); clear sh; (try clear F); go_simp; (first | intro b w1 sh | intro w1 sh); have F := sh.fxb)
        | fail)
    go_fit (KF.out _)
    rintro e w1 ⟨rfl, hb⟩
    replace sh := sh.call hb; clear hb; (try clear F); have F := sh.fxb
    go_wp2_with (first
        | ((with_reducible refine Hp.atl_append 17 ?_ ?_); exact rfl; (refine Hp.wp_append_str (R := R1) (H := [_]) Tryd.winfo_u8 Tryd.underlying51 Tryd.underlying9 (Hp.Sh.front (A := [_]) sh) HR1.out rfl (WireP.putL f.toNat) rfl HPF.out.1 (by have := HPL.out; have := HPF.out.2; omega) ?_); clear sh; (try clear F); intro v2 R2 w1 sh hr; rw [bcells_append, ← List.length_append] at hr; obtain ⟨B2, hB2⟩ : ∃ Z9, prev ++ WireP.putL f.toNat = Z9 := ⟨_, rfl⟩; have hl2 : B2.length ≤ 42 := (by rw [← hB2, List.length_append]; have := HPL.out; have := HPF.out.2; omega); rw [hB2] at hr; have HB2 := Lib.hid hB2; clear hB2; obtain ⟨s2, c2, rfl, -, -, -⟩ := hr.slice; have HR2 := Lib.hid hr; clear hr; replace sh : Hp.Sh w _ ([_] ++ R2) _ := sh.perm List.perm_append_comm; simp only [List.cons_append, List.nil_append] at sh; (have F := sh.fxb); go_simp)
        | ((with_reducible first | refine Hp.wpl_box sh ?_ ?_ | refine Hp.wpa sh ?_ ?_ | refine Hp.atl_store ?_ ?_); exact rfl; (try (refine Hp.wsB sh ?_)); clear sh; (try clear F); go_simp; (first | intro b w1 sh | intro w1 sh); have F := sh.fxb)
        | fail)
    go_fit (KN.out _)
    rintro e w1 ⟨rfl, hb⟩
    replace sh := sh.call hb; clear hb; (try clear F); have F := sh.fxb
    go_wp2_with (first
        | ((with_reducible refine Hp.atl_append 22 ?_ ?_); exact rfl; (refine Hp.wp_append_str (R := R2) (H := [_]) Tryd.winfo_u8 Tryd.underlying51 Tryd.underlying9 (Hp.Sh.front (A := [_]) sh) HR2.out rfl (WireP.putL n) rfl HPN.out.1 (by have := HPN.out.2; omega) ?_); clear sh; (try clear F); intro v3 R3 w1 sh hr; rw [bcells_append, ← List.length_append] at hr; obtain ⟨B3, hB3⟩ : ∃ Z9, B2 ++ WireP.putL n = Z9 := ⟨_, rfl⟩; have hl3 : B3.length ≤ 52 := (by rw [← hB3, List.length_append]; have := HPN.out.2; omega); rw [hB3] at hr; have HB3 := Lib.hid hB3; clear hB3; obtain ⟨s3, c3, rfl, -, -, -⟩ := hr.slice; have HR3 := Lib.hid hr; clear hr; replace sh : Hp.Sh w _ ([_] ++ R3) _ := sh.perm List.perm_append_comm; simp only [List.cons_append, List.nil_append] at sh; (have F := sh.fxb); go_simp)
        | ((with_reducible first | refine Hp.wpl_box sh ?_ ?_ | refine Hp.wpa sh ?_ ?_ | refine Hp.atl_store ?_ ?_); exact rfl; (try (refine Hp.wsB sh ?_)); clear sh; (try clear F); go_simp; (first | intro b w1 sh | intro w1 sh); have F := sh.fxb)
        | fail)
    have HB := Lib.hid (show prev ++ (WireP.putL f.toNat ++ WireP.putL n) = B3 by rw [← HB3.out, ← HB2.out, List.append_assoc])
    clear HR1 HR2 HB2 HB3 hl2
    go_loopw [4, 32] (fun v i wr => ∃ (j : Nat) (R : List Hp.Blk) (B : List UInt8), i = .int .i64 j ∧ j ≤ n ∧ Hid (Hp.RowIs 5 1 v B.length (bcells B) R ∧ B = B3 ++ BatP.evsL (l.take j)) ∧ Hp.Sh w wr ((b1, BatP.btA f (.slice s n c) prev, 27) :: R) (fun W => Hp.RdV W s (l.flatMap EvP.evc))) (fun _ i _ => n - (intOf i).toNat)
    case atStart => exact ⟨0, R3, B3, rfl, by omega, ⟨HR3.out, by simp [BatP.evsL]⟩, sh⟩
    case round =>
      clear sh F HR3
      obtain ⟨j, R, B, rfl, hj, HK, sh⟩ := hrel
      have HR := Lib.hid HK.out.1
      have HBE := Lib.hid HK.out.2
      have hBl : B.length ≤ 52 + 31 * j := by rw [HBE.out, List.length_append]; have := BatP.evsL_take HALL.out j; omega
      clear HK
      obtain ⟨s4, c4, rfl, -, -, -⟩ := HR.out.slice
      by_cases hlt : j < n
      · have hlI : (j : Int) < (n : Int) := by omega
        have hjL : j < l.length := by rw [← HN.out]; exact hlt
        obtain ⟨pp, hpp, -⟩ := sh.data (Hp.flat_pos EvP.evc_len (by decide) hjL)
        subst hpp
        have hb := HE.out _ (List.getElem_mem hjL)
        have ha9 := HALL.out _ (List.getElem_mem hjL)
        rcases hx : l[j] with ⟨q, t, p, k, a, b⟩
        rw [hx] at hb ha9
        obtain ⟨hq, ht, hp, hk, ha, hb⟩ := hb
        dsimp only at hq ht hp hk ha hb ha9
        have HXE := Lib.hid hx
        have KP := Lib.hid (fun W => eput q t p k a b W hq ht hp hk ha hb)
        rw [EvP.putV_yes ha9.1] at KP
        have hpl := EvP.put_len ha9.1 ha9.2
        obtain ⟨T, hT⟩ : ∃ T, EvP.putE (q, t, p, k, a, b) = T := ⟨_, rfl⟩
        rw [hT] at KP hpl
        have HT := Lib.hid hT
        have KT := Lib.hid (fun W => wireText_any (bstr T) W (by rw [bstr_size]; omega))
        rw [bstr_data, BatP.textV_of (by omega)] at KT
        have HPT := Lib.hid (show 0 < (BatP.textL T).length ∧ (BatP.textL T).length ≤ 31 from ⟨BatP.textL_pos T, by have := WireP.putL_le 0 T.length (by omega); unfold BatP.textL; rw [List.length_append]; omega⟩)
        have HC := Lib.hid (fun W (q : Hp.RdV W (some pp) (l.flatMap EvP.evc)) => EvP.ev_cells q hjL HXE.out)
        clear hq ht hp hk ha hb ha9 hx hT hpl
        obtain ⟨q0, q1, q2, q3, q4, q5⟩ := HC.out _ sh.data
        have F := sh.fxb
        have tok_b6 : True := trivial
        go_wp2_with (first
            | ((with_reducible first | refine Hp.wpl_box sh ?_ ?_ | refine Hp.wpa sh ?_ ?_ | refine Hp.atl_store ?_ ?_); exact rfl; (try (refine Hp.wsB sh ?_)); clear sh; (try clear F); go_simp; (first | (have tok := tok_b6; clear tok tok_b6; intro b6 w1 sh) | intro b w1 sh | intro w1 sh); have F := sh.fxb)
            | fail)
        go_fit (KP.out _)
        rintro e w1 ⟨rfl, hb⟩
        replace sh := sh.call hb; clear hb; (try clear F); have F := sh.fxb
        clear q0 q1 q2 q3 q4 q5
        go_wp2_with (first
            | ((with_reducible first | refine Hp.wpl_box sh ?_ ?_ | refine Hp.wpa sh ?_ ?_ | refine Hp.atl_store ?_ ?_); exact rfl; (try (refine Hp.wsB sh ?_)); clear sh; (try clear F); go_simp; (first | intro b w1 sh | intro w1 sh); have F := sh.fxb)
            | fail)
        go_fit (KT.out _)
        rintro e w1 ⟨rfl, hb⟩
        replace sh := sh.call hb; clear hb; (try clear F); have F := sh.fxb
        go_wp2_with (first
            | ((with_reducible refine Hp.atl_append 52 ?_ ?_); exact rfl; (refine Hp.wp_append_str (R := R) (H := [_, _]) Tryd.winfo_u8 Tryd.underlying51 Tryd.underlying9 (Hp.Sh.front (A := [_, _]) sh) HR.out rfl (BatP.textL T) rfl HPT.out.1 (by have := HPT.out.2; omega) ?_); clear sh; (try clear F); intro v9 R9 w1 sh hr; rw [bcells_append, ← List.length_append] at hr; obtain ⟨B9, hB9⟩ : ∃ Z9, B ++ BatP.textL T = Z9 := ⟨_, rfl⟩; have hl9 : B9.length ≤ 52 + 31 * (j + 1) := (by rw [← hB9, List.length_append]; have := HPT.out.2; omega); rw [hB9] at hr; have HB9 := Lib.hid hB9; clear hB9; obtain ⟨s9, c9, rfl, -, -, -⟩ := hr.slice; have HR9 := Lib.hid hr; clear hr; replace sh : Hp.Sh w _ ([_, _] ++ R9) _ := sh.perm List.perm_append_comm; simp only [List.cons_append, List.nil_append] at sh; (have F := sh.fxb); go_simp)
            | ((with_reducible first | refine Hp.wpl_box sh ?_ ?_ | refine Hp.wpa sh ?_ ?_ | refine Hp.atl_store ?_ ?_); exact rfl; (try (refine Hp.wsB sh ?_)); clear sh; (try clear F); go_simp; (first | intro b w1 sh | intro w1 sh); have F := sh.fxb)
            | fail)
        go_roundw
        case rel => exact ⟨j + 1, R9, B9, by go_num, by omega, ⟨HR9.out, by rw [← HB9.out, HBE.out, BatP.evsL_next hjL, HXE.out, HT.out, List.append_assoc]⟩, sh.drop1⟩
        case measure => simp [intOf]; omega
      · obtain rfl : j = n := by omega
        have hbody : BatP.bodyL (f, l, prev) = B := by
          rw [HBE.out, ← HB.out, HN.out, List.take_length]
          unfold BatP.bodyL
          dsimp only
          simp only [List.append_assoc]
        have hB8 : B.length ≤ 8000 := by rw [← hbody]; exact HBL.out
        replace sh : Hp.Sh w _ [_] _ := (Hp.Sh.front (A := [_]) sh).freeze HR.out
        obtain ⟨O, hO⟩ : ∃ O, (66 :: WireP.fixedL B.length 4) ++ B = O := ⟨_, rfl⟩
        have hOl : O.length ≤ 8005 := by rw [← hO, List.length_append, List.length_cons, WireP.fixedL_length]; omega
        obtain ⟨cr, hcr⟩ : ∃ k, (CrcP.ofL O).toNat = k := ⟨_, rfl⟩
        have hcr2 : cr < 4294967296 := by rw [← hcr]; exact (CrcP.ofL O).isLt
        have KX := Lib.hid (fun W => wireFixed_yes B.length 4 W (by decide) (by decide))
        rw [show ((4 : Nat) : Int) = 4 from rfl] at KX
        have KC := Lib.hid (fun W => crcOf_any (bstr O) W (by rw [bstr_size]; omega))
        rw [bstr_data, hcr] at KC
        have KD := Lib.hid (fun W => wireFixed_yes cr 4 W (by decide) (by decide))
        rw [show ((4 : Nat) : Int) = 4 from rfl] at KD
        have z2 : IntKind.u64.wrap (B.length : Int) = (B.length : Int) := by simp [IntKind.wrap, IntKind.bits, IntKind.signed]; omega
        have z3 : IntKind.u64.wrap (cr : Int) = (cr : Int) := by simp [IntKind.wrap, IntKind.bits, IntKind.signed]; omega
        have HO := Lib.hid hO
        have HE9 := Lib.hid (show BatP.outL (f, l, prev) = O ++ WireP.fixedL cr 4 by unfold BatP.outL BatP.sumL; rw [hbody, show BatP.frameL B = O by rw [← hO]; rfl, hcr])
        have n91 : ¬ 9223372036854775807 < (bstr O).size + (bstr (WireP.fixedL cr 4)).size := by rw [bstr_size, bstr_size, WireP.fixedL_length]; omega
        have hlI : ¬ (j : Int) < (j : Int) := by omega
        have KB := Lib.hid (show bcells [66] = [.int .u8 66] by simp [bcells])
        clear hO hcr hbody HBE HB HR
        have F := sh.fxb
        go_wp2_with (first
            | ((with_reducible first | refine Hp.wpl_box sh ?_ ?_ | refine Hp.wpa sh ?_ ?_ | refine Hp.atl_store ?_ ?_); exact rfl; (try (refine Hp.wsB sh ?_)); clear sh; (try clear F); go_simp; (first | intro b w1 sh | intro w1 sh); have F := sh.fxb)
            | fail)
        refine Hp.region_soft (by kernel_rfl) sh (fun _ q => q) ?_; clear sh; (try clear F)
        (try simp only [Hp.p2, Hp.p3])
        (refine Hp.tks (i := 2) (oi := ⟨some 58, Op.move (Operand.tmp 4), _, _, _, none⟩) (fun _ q => q) ?_)
        (refine Hp.tks (i := 3) (oi := ⟨some 59, Op.call { callee := Callee.builtin Builtin.len, args := #[Operand.tmp 58], argTypes := #[51] }, _, _, _, none⟩) (fun _ q => q) ?_)
        (refine Hp.tks (i := 4) (oi := ⟨some 60, Op.convert 3 25 (Operand.tmp 59), _, _, _, none⟩) (fun _ q => q) ?_)
        (refine Hp.cl (i := 5) (oi := ⟨some 61, Op.call { callee := Callee.value (Operand.func 39), args := #[Operand.tmp 60, Operand.const (Value.int IntKind.i64 4)], argTypes := #[25, 3] }, _, _, _, none⟩) _ _ _ (fun _ q => q) (fun W hW => by go_simp) (fun W hW => KX.out W) ?_)
        (refine Hp.tks (i := 7) (oi := ⟨some 63, Op.move (Operand.tmp 4), _, _, _, none⟩) (fun _ q => q) ?_)
        (refine Hp.tk (i := 8) (oi := ⟨some 64, Op.convert 51 9 (Operand.tmp 63), _, _, _, none⟩) _ (fun _ q => q) (fun W hW => (by (have hcv := Hp.conv_rdv (P := Tryd.prog) (n := B.length) (cap := c4) (by first | exact hW.data.1 | exact hW.data.2.1) rfl Tryd.underlying51 Tryd.underlying5 Tryd.underlying9); go_simp; rfl)) ?_)
        refine Hp.soft_make (i := 0) (o := ⟨some 56, Op.buildSlice 51 1 #[(0, Operand.const (Value.int IntKind.u8 66))], _, _, _, none⟩) (by kernel_rfl) rfl (by rfl) (fun w1 sh K hK => ?_); (try clear F); (try have F := Hp.Sh.facts sh); (try simp only [Hp.Facts, Hp.CellsAt, BatP.cellsAt_bt, Nat.reduceAdd, Hp.c1, Hp.c2] at F); (refine Hp.wp_lit 1 [.int .u8 66] Tryd.winfo_u8 Tryd.underlying51 sh rfl rfl (by omega) rfl ?_; clear sh; intro b9 w1 sh; replace sh := sh.freeze1 (vs := bcells [66]) (fun i v h => by rw [KB.out] at h; simpa using h)); refine hK _ _ _ _ _ _ (fun _ q => q) (fun _ q => q.imp fun W h => h.2) sh ?_; clear hK K; clear sh; (try clear F); (try simp only [Act.put, Hp.p1, Hp.p2, Hp.p3])
        (refine Hp.tk (i := 1) (oi := ⟨some 57, Op.convert 51 9 (Operand.tmp 56), _, _, _, none⟩) _ (fun _ q => q) (fun W hW => (by (have hcv := Hp.conv_rdv (P := Tryd.prog) (n := 1) (cap := 1) hW.data.1 rfl Tryd.underlying51 Tryd.underlying5 Tryd.underlying9); go_simp; rfl)) ?_)
        (refine Hp.tk (i := 6) (oi := ⟨some 62, Op.binOp BinOp.add 9 (Operand.tmp 57) (Operand.tmp 61) 9, _, _, _, none⟩) _ (fun _ q => q) (fun W hW => (by go_simp; rw [if_neg (by simp only [bstr_size, WireP.fixedL_length, List.length_append, List.length_cons, List.length_nil]; omega), bstr_append])) ?_)
        (refine Hp.tk (i := 9) (oi := ⟨some 65, Op.binOp BinOp.add 9 (Operand.tmp 62) (Operand.tmp 64) 9, _, _, _, none⟩) _ (fun _ q => q) (fun W hW => (by go_simp; rw [if_neg (by simp only [bstr_size, WireP.fixedL_length, List.length_append, List.length_cons, List.length_nil]; omega), bstr_append, HO.out])) ?_)
        (refine Hp.tks (i := 10) (oi := ⟨some 10, Op.assign (Operand.tmp 65), _, _, _, none⟩) (fun _ q => q) ?_)
        refine Hp.soft_done (by kernel_rfl) (fun w1 sh => ?_) _; (try clear F); (try have F := Hp.Sh.facts sh); (try simp only [Hp.Facts, Hp.CellsAt, BatP.cellsAt_bt, Nat.reduceAdd, Hp.c1, Hp.c2] at F)
        go_wp2_with (first
            | ((with_reducible first | refine Hp.wpl_box sh ?_ ?_ | refine Hp.wpa sh ?_ ?_ | refine Hp.atl_store ?_ ?_); exact rfl; (try (refine Hp.wsB sh ?_)); clear sh; (try clear F); go_simp; (first | intro b w1 sh | intro w1 sh); have F := sh.fxb)
            | fail)
        go_fit (KC.out _)
        rintro e w1 ⟨rfl, hb⟩
        replace sh := sh.call hb; clear hb; (try clear F); have F := sh.fxb
        go_wp2_with (first
            | ((with_reducible first | refine Hp.wpl_box sh ?_ ?_ | refine Hp.wpa sh ?_ ?_ | refine Hp.atl_store ?_ ?_); exact rfl; (try (refine Hp.wsB sh ?_)); clear sh; (try clear F); go_simp; (first | intro b w1 sh | intro w1 sh); have F := sh.fxb)
            | fail)
        go_fit (KD.out _)
        rintro e w1 ⟨rfl, hb⟩
        replace sh := sh.call hb; clear hb; (try clear F); have F := sh.fxb
        go_wp2_with (first
            | ((with_reducible first | refine Hp.wpl_box sh ?_ ?_ | refine Hp.wpa sh ?_ ?_ | refine Hp.atl_store ?_ ?_); exact rfl; (try (refine Hp.wsB sh ?_)); clear sh; (try clear F); go_simp; (first | intro b w1 sh | intro w1 sh); have F := sh.fxb)
            | fail)
        go_ret2
        exact ⟨by rw [HX.out, HE9.out, ← bstr_append]; rfl, sh.below⟩

end Go.Proofs.YtfcffglgkblidaaDoor