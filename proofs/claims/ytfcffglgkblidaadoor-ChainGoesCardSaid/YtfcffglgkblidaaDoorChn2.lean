
/-
  The walk of chain.Check.
-/
import Derived.Test.YtfcffglgkblidaaDoorChn1
namespace Go.Proofs.YtfcffglgkblidaaDoor
open Go.RowKit
set_option linter.unusedVariables false
set_option linter.unusedSimpArgs false
theorem bdeq (xs ys : List UInt8) (hx : xs.length = 32) (hy : ys.length = 32) (W : World) : (Op.equalIn 10000 23 (.agg (BatP.bA xs)) (.agg (BatP.bA ys))).run Tryd.prog W = .ok (xs == ys) W := deq xs ys hx hy W
namespace ChnP
/-- A text as a cell. -/
def txc (t : Bs) : Value := .string (bstr t)
theorem tx_cell {W : World} {p : Addr} {L : List Bs} (h : Hp.RdV W (some p) (L.map txc)) {k : Nat} (hk : k < L.length) {t : Bs} (ht : L[k] = t) : W.cell? (p.add k) = some (.string (bstr t)) := by
  obtain ⟨p', hp, hc⟩ := h (by rw [List.length_map]; omega)
  obtain rfl := Option.some.inj hp
  exact hc k _ (by rw [List.getElem?_map, List.getElem?_eq_getElem hk, ht]; rfl)
def ChkP (X : (List Ev × Bs) × Int) (w : World) (e : Ending) (w' : World) : Prop :=
  ∃ s c, e = .returned (.tuple #[.slice s X.1.1.length c, .agg (BatP.bA X.1.2), .int .i64 X.2]) ∧ (∀ p, s = some p → w.heap.size ≤ p.block) ∧ Hp.RdV w' s (X.1.1.flatMap EvP.evc) ∧ Below w.heap.size w w' ∧ X.1.1.length ≤ c ∧ c ≤ maxLen ∧ (s = none → X.1.1.length = 0 ∧ c = 0)
theorem ChkP.no {X : (List Ev × Bs) × Int} {er : Int} {w w' : World} (h : X = (([], BatP.zeros), er)) (hb : Below w.heap.size w w') {e : Ending} (he : e = .returned (.tuple #[.slice none 0 0, .agg (BatP.bA BatP.zeros), .int .i64 er])) : ChkP X w e w' := by
  subst h
  exact ⟨none, 0, he, (fun p h => by cases h), Hp.RdV.nil _ _, hb, Nat.le_refl _, Nat.zero_le _, fun _ => ⟨rfl, rfl⟩⟩
theorem ChkP.yes {X : (List Ev × Bs) × Int} {T : List Ev} {a : Bs} {nl : Nat} {w w' : World} {H R : List Hp.Blk} {D : World → Prop} {s : Option Addr} {c : Nat} (h : X = ((T, a), 0)) (hn : T.length = nl) (sh : Hp.Sh w w' (R ++ H) D) (hr : Hp.RowIs 47 6 (.slice s nl c) nl (T.flatMap EvP.evc) R) {e : Ending} (he : e = .returned (.tuple #[.slice s nl c, .agg (BatP.bA a), .int .i64 0])) : ChkP X w e w' := by
  subst h hn
  obtain ⟨s', c', h1, h2, h3, h4⟩ := hr.slice
  cases h1
  exact ⟨s, c, he, Hp.row_new sh hr, (Hp.Sh.freeze sh hr).data.1, sh.below, h3, h4, h2⟩
end ChnP
set_option maxHeartbeats 4000000 in
set_option maxRecDepth 100000 in
theorem ccheck (a : List UInt8) (ha : a.length = 32) (f : Int) (hf : 0 ≤ f ∧ f ≤ 18446744073709551615) (s : Option Addr) (n c : Nat) (L : List (List UInt8)) (hn : n = L.length) (hm : n ≤ 100) (hL : ∀ t ∈ L, t.length ≤ 40000) (w : World) (hR : Hp.RdV w s (L.map ChnP.txc)) (hG : Hp.RdV w (some ⟨0, 0, none⟩) (DigP.wds DigP.consts)) :
    Calls Tryd.prog 14 #[.agg (BatP.bA a), .int .u64 f, .slice s n c] w fun e w' => ChnP.ChkP (ChnP.chk a f L []) w e w' := by
  have sh := (Hp.Sh.start ((RdV_rob hR).and (RdV_rob hG)) : Hp.Sh w w [] (fun W => Hp.RdV W s (L.map ChnP.txc) ∧ Hp.RdV W (some ⟨0, 0, none⟩) (DigP.wds DigP.consts)))
  have HN := Lib.hid hn.symm
  have HL := Lib.hid hL
  have HX0 := Lib.hid (show ChnP.chk a f L [] = ChnP.chk a f (L.drop 0) [] from rfl)
  have HF0 := Lib.hid (And.intro ha hf)
  have HR0 := Lib.hid (Hp.RowIs.nil 47 6)
  clear hn hL hR hG ha hf
  go_enter Tryd.func14, Tryd.ntmps14
  have F := sh.fxb
  have tok_b3 : True := trivial
  have tok_b7 : True := trivial
  go_wp2_with (first
      | ((with_reducible first | refine Hp.wpl_box sh ?_ ?_ | refine Hp.wpa sh ?_ ?_ | refine Hp.atl_store ?_ ?_); exact rfl; (try (refine Hp.wsB sh ?_)); clear sh; (try clear F); go_simp; (first | (have tok := tok_b3; clear tok tok_b3; intro b3 w1 sh) | (have tok := tok_b7; clear tok tok_b7; intro b7 w1 sh) | intro b w1 sh | intro w1 sh); have F := sh.fxb)
      | fail)
  go_loopw [1, 9, 17] (fun fv v i wr => ∃ (j : Nat) (R : List Hp.Blk) (T : List EvP.Ev) (a' : List UInt8) (f' : Int) (m : Nat), fv = .int .u64 f' ∧ i = .int .i64 j ∧ j ≤ n ∧ m ≤ 256 * j ∧ Hid (Hp.RowIs 47 6 v m (T.flatMap EvP.evc) R ∧ T.length = m ∧ a'.length = 32 ∧ (0 ≤ f' ∧ f' ≤ 18446744073709551615) ∧ ChnP.chk a f L [] = ChnP.chk a' f' (L.drop j) T) ∧ Hp.Sh w wr ((b7, BatP.bA BatP.zeros, 23) :: (b3, BatP.bA a', 23) :: R) (fun W => Hp.RdV W s (L.map ChnP.txc) ∧ Hp.RdV W (some ⟨0, 0, none⟩) (DigP.wds DigP.consts))) (fun _ _ i _ => n - (intOf i).toNat)
  case atStart => exact ⟨0, [], [], a, f, 0, rfl, rfl, by omega, by omega, ⟨HR0.out, rfl, HF0.out.1, HF0.out.2, HX0.out⟩, sh⟩
  case round =>
    clear sh F HR0 HF0 HX0
    obtain ⟨j, R, T, a', f', m, rfl, rfl, hj, hmj, HK, sh⟩ := hrel
    have HR := Lib.hid HK.out.1
    have HTL := Lib.hid HK.out.2.1
    have HAL := Lib.hid HK.out.2.2.1
    have hf' := HK.out.2.2.2.1
    have HX := Lib.hid HK.out.2.2.2.2
    clear HK
    obtain ⟨s4, c4, rfl, -, -, -⟩ := HR.out.slice
    by_cases hlt : j < n
    · have hlI : (j : Int) < (n : Int) := by omega
      have hjL : j < L.length := by rw [HN.out]; exact hlt
      obtain ⟨pp, hpp, -⟩ := sh.data.1 (by rw [List.length_map]; omega)
      subst hpp
      have hb := HL.out _ (List.getElem_mem hjL)
      obtain ⟨t, ht⟩ : ∃ t, L[j] = t := ⟨_, rfl⟩
      rw [ht] at hb
      have hdr : L.drop j = t :: L.drop (j + 1) := by rw [List.drop_eq_getElem_cons hjL, ht]
      rw [hdr] at HX
      have HCC := Lib.hid (fun W (q : Hp.RdV W (some pp) (L.map ChnP.txc)) => ChnP.tx_cell q hjL ht)
      have KG := Lib.hid (fun W => bget t (by omega) W)
      have hsz := bstr_size t
      have hgl : (BatP.getB t).2 = 0 → _ := fun h0 => BatP.get_back (s := t) (b := (BatP.getB t).1.1) (n := (BatP.getB t).1.2) (by rw [← h0])
      rcases hY : BatP.getB t with ⟨⟨⟨bf, ls, pv⟩, mm⟩, er⟩
      by_cases he : er = 0
      · subst he
        obtain ⟨g1, g2, g3, g4, g5⟩ := BatP.get_back hY
        rw [hY] at KG
        unfold BatP.GetP at KG
        dsimp only at KG
        have hpv : pv.length = 32 := g2.prev
        have hbf : 0 ≤ bf ∧ bf ≤ 18446744073709551615 := g2.first
        have hls := BatP.isB_iff.1 g1
        have h1l : 1 ≤ ls.length := hls.1
        have h2l : ls.length ≤ 256 := hls.2.1
        obtain ⟨nl, hnl⟩ : ∃ k, ls.length = k := ⟨_, rfl⟩
        rw [hnl] at KG h1l h2l
        have HNL := Lib.hid hnl
        have HPL := Lib.hid hpv
        have HQ := Lib.hid (show pv.length = BatP.zeros.length from hpv)
        have HTN := Lib.hid (show (T ++ ls).length = m + nl by rw [List.length_append, HTL.out, hnl])
        clear hgl g1 g2 g3 g5 hls
        by_cases hmm : mm < t.length
        · have hX9 := Lib.hid (HX.out.trans (ChnP.chk_form hY hmm))
          have i1 : (mm : Int) < (((bstr t).size : Nat) : Int) := by rw [hsz]; omega
          have i2 : mm < (bstr t).size := by rw [hsz]; omega
          clear hY hnl hpv hbf hsz hmm hb ht hdr
          have q0 := HCC.out _ sh.data.1
          have F := sh.fxb
          go_wp2_with (first
              | ((with_reducible first | refine Hp.wpl_box sh ?_ ?_ | refine Hp.wpa sh ?_ ?_ | refine Hp.atl_store ?_ ?_); exact rfl; (try (refine Hp.wsB sh ?_)); clear sh; (try clear F); go_simp; (first | intro b w1 sh | intro w1 sh); have F := sh.fxb)
              | fail)
          go_fit (KG.out _)
          rintro e w1 ⟨s9, c9, rfl, hn9, hr9, hb9, hc9, hcm9⟩
          replace sh := Hp.gain sh hb9 hn9 hr9
          clear hn9 hr9 hb9 q0
          (try clear F); (have F := sh.fxb)
          have tok_b12 : True := trivial
          go_wp2_with (first
              | ((with_reducible refine Hp.at_st 27 ?_ ?_); (rotate_left; exact rfl); (refine Hp.bst_all 0 sh rfl rfl rfl HQ.out (BatP.bt_size' rfl) ?_); clear sh; (try clear F); go_simp; intro w1 sh; (have F := sh.fxb))
              | ((with_reducible refine Hp.at_st 23 ?_ ?_); (rotate_left; exact rfl); (refine Hp.bst_arr (q := BatP.zeros) 1 sh rfl rfl rfl rfl (by kernel_rfl) ?_); clear sh; (try clear F); go_simp; intro w1 sh; (have F := sh.fxb))
              | ((with_reducible first | refine Hp.wpl_box sh ?_ ?_ | refine Hp.wpa sh ?_ ?_ | refine Hp.atl_store ?_ ?_); exact rfl; (try (refine Hp.wsB sh ?_)); clear sh; (try clear F); go_simp; (first | (have tok := tok_b12; clear tok tok_b12; intro b12 w1 sh) | intro b w1 sh | intro w1 sh); have F := sh.fxb)
              | fail)
          exact bodyPost_ret (Hp.res_tct rfl rfl (sh.load 1 rfl (by kernel_rfl) (BatP.dg_size rfl))) rfl (ChnP.ChkP.no hX9.out sh.below rfl)
        · have i1 : ¬ (mm : Int) < (((bstr t).size : Nat) : Int) := by rw [hsz]; omega
          have i2 : ¬ mm < (bstr t).size := by rw [hsz]; omega
          have i3 : (mm : Int) = (((bstr t).size : Nat) : Int) := by rw [hsz]; omega
          have i4 : mm = (bstr t).size := by rw [hsz]; omega
          by_cases hpa : pv = a'
          · subst hpa
            have HD := bdeq pv pv hpv hpv
            rw [show (pv == pv) = true by simp] at HD
            by_cases hff : bf = f'
            · subst hff
              obtain ⟨nf, hnf⟩ : ∃ nf, ChnP.nxt bf nl = nf := ⟨_, rfl⟩
              have hnfi : 0 ≤ nf ∧ nf ≤ 18446744073709551615 := by have := ChnP.nxt_in bf nl; omega
              have hX9 := Lib.hid (HX.out.trans (ChnP.chk_next hY hmm rfl rfl))
              dsimp only at hX9
              rw [hnl, hnf] at hX9
              have KO := Lib.hid (fun W g => cof t (by omega) W g)
              have HDL := Lib.hid (show (DigP.of t).length = pv.length by rw [ChnP.of_len, hpv])
              have HDG := Lib.hid (ChnP.of_len t)
              obtain ⟨lv, hlv⟩ : ∃ lv, IntKind.u64.wrap (IntKind.u64.wrap (bf + (nl : Int)) - 1) = lv := ⟨_, rfl⟩
              have K5 := Lib.hid (fun s1 c1 W => blast bf s1 nl c1 pv (by omega) W)
              rw [hlv] at K5
              have z5 : IntKind.u64.wrap (lv + 1) = nf := by rw [← hlv, ← hnf]; unfold ChnP.nxt; simp [IntKind.wrap, IntKind.bits, IntKind.signed]
              have z6 : (lv + 1) % 18446744073709551616 = nf := by rw [← z5]; simp [IntKind.wrap, IntKind.bits, IntKind.signed]
              clear hlv
              clear hY hnl hpv hbf hsz hmm hb ht hdr hnf HX
              generalize DigP.of t = dg at KO HDL HDG hX9
              have q0 := HCC.out _ sh.data.1
              have F := sh.fxb
              go_wp2_with (first
                  | ((with_reducible first | refine Hp.wpl_box sh ?_ ?_ | refine Hp.wpa sh ?_ ?_ | refine Hp.atl_store ?_ ?_); exact rfl; (try (refine Hp.wsB sh ?_)); clear sh; (try clear F); go_simp; (first | intro b w1 sh | intro w1 sh); have F := sh.fxb)
                  | fail)
              go_fit (KG.out _)
              rintro e w1 ⟨s9, c9, rfl, hn9, hr9, hb9, hc9, hcm9⟩
              obtain ⟨p9, rfl⟩ : ∃ p9, s9 = some p9 := by
                obtain ⟨p9, h9, -⟩ := hr9 (Hp.flat_pos EvP.evc_len (by decide) (k := 0) (by have := HNL.out; omega))
                exact ⟨p9, h9⟩
              replace sh := Hp.gain sh hb9 hn9 hr9
              clear hn9 hr9 hb9 q0
              (try clear F); (have F := sh.fxb)
              have tok_b12 : True := trivial
              go_wp2_with (first
                  | ((with_reducible refine Hp.at_st 27 ?_ ?_); (rotate_left; exact rfl); (refine Hp.bst_all 0 sh rfl rfl rfl HQ.out (BatP.bt_size' rfl) ?_); clear sh; (try clear F); go_simp; intro w1 sh; (have F := sh.fxb))
                  | ((with_reducible refine Hp.at_ld 23 ?_); (first | refine Hp.bld_prev 0 sh rfl rfl rfl Tryd.underlying23 rfl (by rw [HPL.out]; kernel_rfl) ?_ | refine Hp.bld_g 2 sh rfl rfl rfl (by kernel_rfl) (BatP.dg_size HAL.out) ?_); go_simp)
                  | ((with_reducible refine Hp.at_ld 24 ?_); (refine Hp.bld_evs 0 sh rfl rfl rfl Tryd.underlying24 ?_); (try simp only [Act.put, Hp.p1, Hp.p2, Hp.p3]))
                  | ((with_reducible refine Hp.atl_append 47 ?_ ?_); exact rfl; (refine Hp.wp_append (R := R) (H := [_, _, _]) (news := ls.flatMap EvP.evc) Tryd.i_evt Tryd.underlying24 (by decide) rfl (by decide) (Hp.Sh.front (A := [_, _, _]) sh) HR.out rfl rfl (by rw [Hp.flat_length EvP.evc_len, HNL.out]) sh.data.1 (fun h => by cases h) (EvP.evs_ones _) (by omega) ?_); clear sh; (try clear F); intro v9 R9 w1 sh hr; rw [← List.flatMap_append] at hr; obtain ⟨v9s, v9c, rfl, -, -, -⟩ := hr.slice; have HR9 := Lib.hid hr; clear hr; replace sh : Hp.Sh w _ ([_, _, _] ++ R9) _ := sh.perm List.perm_append_comm; simp only [List.cons_append, List.nil_append] at sh; (have F := sh.fxb); go_simp)
                  | ((with_reducible first | refine Hp.wpl_box sh ?_ ?_ | refine Hp.wpa sh ?_ ?_ | refine Hp.atl_store ?_ ?_); exact rfl; (try (refine Hp.wsB sh ?_)); clear sh; (try clear F); go_simp; (first | (have tok := tok_b12; clear tok tok_b12; intro b12 w1 sh) | intro b w1 sh | intro w1 sh); have F := sh.fxb)
                  | fail)
              go_fit (KO.out _ sh.data.2.2)
              rintro e w1 ⟨rfl, hb⟩
              replace sh := sh.call hb; clear hb; (try clear F); have F := sh.fxb
              go_wp2_with (first
                  | ((with_reducible refine Hp.at_st 23 ?_ ?_); (rotate_left; exact rfl); (refine Hp.bst_arr 2 sh rfl rfl rfl HDL.out (by rw [HAL.out]; kernel_rfl) ?_); clear sh; (try clear F); go_simp; intro w1 sh; (have F := sh.fxb))
                  | ((with_reducible refine Hp.at_ld 27 ?_); (first | refine Hp.bld_g 0 sh rfl rfl rfl (by kernel_rfl) (BatP.bt_size HPL.out) ?_ | refine Hp.bld_g 1 sh rfl rfl rfl (by kernel_rfl) (BatP.bt_size HPL.out) ?_ | refine Hp.bld_g 2 sh rfl rfl rfl (by kernel_rfl) (BatP.bt_size HPL.out) ?_); go_simp)
                  | ((with_reducible first | refine Hp.wpl_box sh ?_ ?_ | refine Hp.wpa sh ?_ ?_ | refine Hp.atl_store ?_ ?_); exact rfl; (try (refine Hp.wsB sh ?_)); clear sh; (try clear F); go_simp; (first | intro b w1 sh | intro w1 sh); have F := sh.fxb)
                  | fail)
              go_fit (K5.out _ _ _)
              rintro e w1 ⟨rfl, hb⟩
              replace sh := sh.call hb; clear hb; (try clear F); have F := sh.fxb
              go_wp2_with (first
                  | ((with_reducible first | refine Hp.wpl_box sh ?_ ?_ | refine Hp.wpa sh ?_ ?_ | refine Hp.atl_store ?_ ?_); exact rfl; (try (refine Hp.wsB sh ?_)); clear sh; (try clear F); go_simp; (first | intro b w1 sh | intro w1 sh); have F := sh.fxb)
                  | fail)
              go_roundw
              case rel => exact ⟨j + 1, R9, T ++ ls, dg, nf, m + nl, by first | rfl | (congr 1), by go_num, by omega, by omega, ⟨HR9.out, HTN.out, HDG.out, hnfi, hX9.out⟩, (sh.drop1).imp (fun W h => h.2)⟩
              case measure => simp [intOf]; omega
            · have hX9 := Lib.hid (HX.out.trans (ChnP.chk_chain hY hmm (Or.inr hff)))
              have j1 : (bf != f') = true := by simpa using hff
              clear hY hnl hpv hbf hsz hmm hb ht hdr
              have q0 := HCC.out _ sh.data.1
              have F := sh.fxb
              go_wp2_with (first
                  | ((with_reducible first | refine Hp.wpl_box sh ?_ ?_ | refine Hp.wpa sh ?_ ?_ | refine Hp.atl_store ?_ ?_); exact rfl; (try (refine Hp.wsB sh ?_)); clear sh; (try clear F); go_simp; (first | intro b w1 sh | intro w1 sh); have F := sh.fxb)
                  | fail)
              go_fit (KG.out _)
              rintro e w1 ⟨s9, c9, rfl, hn9, hr9, hb9, hc9, hcm9⟩
              replace sh := Hp.gain sh hb9 hn9 hr9
              clear hn9 hr9 hb9 q0
              (try clear F); (have F := sh.fxb)
              have tok_b12 : True := trivial
              go_wp2_with (first
                  | ((with_reducible refine Hp.at_st 27 ?_ ?_); (rotate_left; exact rfl); (refine Hp.bst_all 0 sh rfl rfl rfl HQ.out (BatP.bt_size' rfl) ?_); clear sh; (try clear F); go_simp; intro w1 sh; (have F := sh.fxb))
                  | ((with_reducible refine Hp.at_ld 23 ?_); (first | refine Hp.bld_prev 0 sh rfl rfl rfl Tryd.underlying23 rfl (by rw [HPL.out]; kernel_rfl) ?_ | refine Hp.bld_g 2 sh rfl rfl rfl (by kernel_rfl) (BatP.dg_size HAL.out) ?_); go_simp)
                  | ((with_reducible refine Hp.at_st 23 ?_ ?_); (rotate_left; exact rfl); (refine Hp.bst_arr (q := BatP.zeros) 1 sh rfl rfl rfl rfl (by kernel_rfl) ?_); clear sh; (try clear F); go_simp; intro w1 sh; (have F := sh.fxb))
                  | ((with_reducible first | refine Hp.wpl_box sh ?_ ?_ | refine Hp.wpa sh ?_ ?_ | refine Hp.atl_store ?_ ?_); exact rfl; (try (refine Hp.wsB sh ?_)); clear sh; (try clear F); go_simp; (first | (have tok := tok_b12; clear tok tok_b12; intro b12 w1 sh) | intro b w1 sh | intro w1 sh); have F := sh.fxb)
                  | fail)
              exact bodyPost_ret (Hp.res_tct rfl rfl (sh.load 1 rfl (by kernel_rfl) (BatP.dg_size rfl))) rfl (ChnP.ChkP.no hX9.out sh.below rfl)
          · have HD := bdeq pv a' hpv HAL.out
            rw [show (pv == a') = false by simpa using hpa] at HD
            have hX9 := Lib.hid (HX.out.trans (ChnP.chk_chain hY hmm (Or.inl hpa)))
            clear hY hnl hpv hbf hsz hmm hb ht hdr
            have q0 := HCC.out _ sh.data.1
            have F := sh.fxb
            go_wp2_with (first
                | ((with_reducible first | refine Hp.wpl_box sh ?_ ?_ | refine Hp.wpa sh ?_ ?_ | refine Hp.atl_store ?_ ?_); exact rfl; (try (refine Hp.wsB sh ?_)); clear sh; (try clear F); go_simp; (first | intro b w1 sh | intro w1 sh); have F := sh.fxb)
                | fail)
            go_fit (KG.out _)
            rintro e w1 ⟨s9, c9, rfl, hn9, hr9, hb9, hc9, hcm9⟩
            replace sh := Hp.gain sh hb9 hn9 hr9
            clear hn9 hr9 hb9 q0
            (try clear F); (have F := sh.fxb)
            have tok_b12 : True := trivial
            go_wp2_with (first
                | ((with_reducible refine Hp.at_st 27 ?_ ?_); (rotate_left; exact rfl); (refine Hp.bst_all 0 sh rfl rfl rfl HQ.out (BatP.bt_size' rfl) ?_); clear sh; (try clear F); go_simp; intro w1 sh; (have F := sh.fxb))
                | ((with_reducible refine Hp.at_ld 23 ?_); (first | refine Hp.bld_prev 0 sh rfl rfl rfl Tryd.underlying23 rfl (by rw [HPL.out]; kernel_rfl) ?_ | refine Hp.bld_g 2 sh rfl rfl rfl (by kernel_rfl) (BatP.dg_size HAL.out) ?_); go_simp)
                | ((with_reducible refine Hp.at_st 23 ?_ ?_); (rotate_left; exact rfl); (refine Hp.bst_arr (q := BatP.zeros) 1 sh rfl rfl rfl rfl (by kernel_rfl) ?_); clear sh; (try clear F); go_simp; intro w1 sh; (have F := sh.fxb))
                | ((with_reducible first | refine Hp.wpl_box sh ?_ ?_ | refine Hp.wpa sh ?_ ?_ | refine Hp.atl_store ?_ ?_); exact rfl; (try (refine Hp.wsB sh ?_)); clear sh; (try clear F); go_simp; (first | (have tok := tok_b12; clear tok tok_b12; intro b12 w1 sh) | intro b w1 sh | intro w1 sh); have F := sh.fxb)
                | fail)
            exact bodyPost_ret (Hp.res_tct rfl rfl (sh.load 1 rfl (by kernel_rfl) (BatP.dg_size rfl))) rfl (ChnP.ChkP.no hX9.out sh.below rfl)
      · have h2 := BatP.get_none (s := t) (by rw [hY]; exact he)
        have hX9 := Lib.hid (HX.out.trans (ChnP.chk_er hY he))
        rw [h2, hY] at KG
        unfold BatP.GetP BatP.noB BatP.zeroB at KG
        dsimp only [List.length_nil] at KG
        have d0 : (er != 0) = true := by simpa using he
        clear hY he h2 hsz hb ht hdr hgl
        have q0 := HCC.out _ sh.data.1
        have F := sh.fxb
        go_wp2_with (first
            | ((with_reducible first | refine Hp.wpl_box sh ?_ ?_ | refine Hp.wpa sh ?_ ?_ | refine Hp.atl_store ?_ ?_); exact rfl; (try (refine Hp.wsB sh ?_)); clear sh; (try clear F); go_simp; (first | intro b w1 sh | intro w1 sh); have F := sh.fxb)
            | fail)
        go_fit (KG.out _)
        rintro e w1 ⟨s9, c9, rfl, hn9, hr9, hb9, hc9, hcm9⟩
        replace sh := Hp.gain sh hb9 hn9 hr9
        clear hn9 hr9 hb9 q0
        (try clear F); (have F := sh.fxb)
        have tok_b12 : True := trivial
        go_wp2_with (first
            | ((with_reducible refine Hp.at_st 27 ?_ ?_); (rotate_left; exact rfl); (refine Hp.bst_all 0 sh rfl rfl rfl rfl (BatP.bt_size' rfl) ?_); clear sh; (try clear F); go_simp; intro w1 sh; (have F := sh.fxb))
            | ((with_reducible refine Hp.at_st 23 ?_ ?_); (rotate_left; exact rfl); (refine Hp.bst_arr (q := BatP.zeros) 1 sh rfl rfl rfl rfl (by kernel_rfl) ?_); clear sh; (try clear F); go_simp; intro w1 sh; (have F := sh.fxb))
            | ((with_reducible first | refine Hp.wpl_box sh ?_ ?_ | refine Hp.wpa sh ?_ ?_ | refine Hp.atl_store ?_ ?_); exact rfl; (try (refine Hp.wsB sh ?_)); clear sh; (try clear F); go_simp; (first | (have tok := tok_b12; clear tok tok_b12; intro b12 w1 sh) | intro b w1 sh | intro w1 sh); have F := sh.fxb)
            | fail)
        exact bodyPost_ret (Hp.res_tct rfl rfl (sh.load 1 rfl (by kernel_rfl) (BatP.dg_size rfl))) rfl (ChnP.ChkP.no hX9.out sh.below rfl)
    · obtain rfl : j = n := by omega
      have hX9 : ChnP.chk a f L [] = ((T, a'), 0) := by
        have e : L.drop j = [] := List.drop_eq_nil_of_le (by rw [HN.out]; exact Nat.le_refl _)
        rw [HX.out, e]; rfl
      have HX9 := Lib.hid hX9
      have HAZ := Lib.hid (show a'.length = BatP.zeros.length from HAL.out)
      clear hX9 HX
      have F := sh.fxb
      go_wp2_with (first
          | ((with_reducible first | refine Hp.wpl_box sh ?_ ?_ | refine Hp.wpa sh ?_ ?_ | refine Hp.atl_store ?_ ?_); exact rfl; (try (refine Hp.wsB sh ?_)); clear sh; (try clear F); go_simp; (first | intro b w1 sh | intro w1 sh); have F := sh.fxb)
          | fail)
      refine Hp.region_soft (by kernel_rfl) sh (fun _ q => Hp.Sh.drop1 q) ?_; clear sh; (try clear F)
      (try simp only [Hp.p2, Hp.p3])
      (refine Hp.tks (i := 0) (oi := ⟨some 57, Op.move (Operand.tmp 9), _, _, _, none⟩) (fun _ q => Hp.Sh.drop1 q) ?_)
      (refine Hp.tk (i := 1) (oi := ⟨some 58, Op.load 23 (Operand.tmp 3), _, _, _, none⟩) _ (fun _ q => Hp.Sh.drop1 q) (fun W hW => (Hp.bexec_load 0 hW rfl rfl (by kernel_rfl) (BatP.dg_size HAL.out))) ?_)
      (refine Hp.tks (i := 2) (oi := ⟨some 6, Op.assign (Operand.tmp 57), _, _, _, none⟩) (fun _ q => Hp.Sh.drop1 q) ?_)
      refine Hp.soft_make (i := 3) (o := ⟨none, Op.store 23 (Operand.tmp 7) (Operand.tmp 58), _, _, _, none⟩) (by kernel_rfl) rfl (by rfl) (fun w1 sh K hK => ?_); (try clear F); (try have F := Hp.Sh.facts sh); (try simp only [Hp.Facts, Hp.CellsAt, BatP.cellsAt_bt, Nat.reduceAdd, Hp.c1, Hp.c2] at F); (refine Hp.bst_arr 0 sh rfl rfl rfl HAZ.out (by kernel_rfl) ?_; clear sh; (try clear F); go_simp; intro w1 sh; (have F := sh.fxb)); refine hK _ _ _ _ _ _ (fun _ q => Hp.Sh.drop1 q) (fun _ q => q) sh ?_; clear hK K; clear sh; (try clear F); (try simp only [Act.put, Hp.p1, Hp.p2, Hp.p3])
      (refine Hp.tks (i := 4) (oi := ⟨some 8, Op.assign (Operand.const (Value.int IntKind.i64 0)), _, _, _, none⟩) (fun _ q => Hp.Sh.drop1 q) ?_)
      refine Hp.soft_done (by kernel_rfl) (fun w1 sh => ?_) _; (try clear F); (try have F := Hp.Sh.facts sh); (try simp only [Hp.Facts, Hp.CellsAt, BatP.cellsAt_bt, Nat.reduceAdd, Hp.c1, Hp.c2] at F)
      go_wp2_with fail
      exact bodyPost_ret (Hp.res_tct rfl rfl (sh.load 0 rfl (by kernel_rfl) (BatP.dg_size HAL.out))) rfl (ChnP.ChkP.yes HX9.out HTL.out (Hp.Sh.front (A := [_, _]) sh) HR.out rfl)
end Go.Proofs.YtfcffglgkblidaaDoor
