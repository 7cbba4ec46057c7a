
/-
  The walk of the reference's body.
-/
import Derived.Test.YtfcffglgkblidaaDoorBat8
namespace Go.Proofs.YtfcffglgkblidaaDoor
open Go.RowKit
set_option linter.unusedVariables false
set_option linter.unusedSimpArgs false
namespace BatP
/-- What the reference's body answers. -/
def BodyP (o : Option Ba) (w : World) (e : Ending) (w' : World) : Prop :=
  match o with
  | none => ∃ g s n c q, e = .returned (.tuple #[.agg (btA g (.slice s n c) q), .bool false]) ∧ q.length = 32 ∧ Below w.heap.size w w'
  | some b => ∃ s c, e = .returned (.tuple #[.agg (btA b.1 (.slice s b.2.1.length c) b.2.2), .bool true]) ∧ (∀ p, s = some p → w.heap.size ≤ p.block) ∧ Hp.RdV w' s (b.2.1.flatMap EvP.evc) ∧ Below w.heap.size w w' ∧ b.2.1.length ≤ c ∧ c ≤ maxLen
theorem BodyP.no {o : Option Ba} {w w' : World} {e : Ending} {g : Int} {s : Option Addr} {n c : Nat} {q : List UInt8} (h : o = none) (he : e = .returned (.tuple #[.agg (btA g (.slice s n c) q), .bool false])) (hq : q.length = 32) (hb : Below w.heap.size w w') : BodyP o w e w' := by
  subst h; exact ⟨g, s, n, c, q, he, hq, hb⟩
theorem BodyP.yes {o : Option Ba} {b : Ba} {w w' : World} {e : Ending} {s : Option Addr} {n c : Nat} (h : o = some b) (hn : b.2.1.length = n) (he : e = .returned (.tuple #[.agg (btA b.1 (.slice s n c) b.2.2), .bool true])) (hf : ∀ p, s = some p → w.heap.size ≤ p.block) (hR : Hp.RdV w' s (b.2.1.flatMap EvP.evc)) (hb : Below w.heap.size w w') (h1 : n ≤ c) (h2 : c ≤ maxLen) : BodyP o w e w' := by
  subst h hn; exact ⟨s, c, he, hf, hR, hb, h1, h2⟩
/-- The first j bytes are set. -/
def pad (s : List UInt8) (j : Nat) : List UInt8 := s.take j ++ List.replicate (32 - j) 0
theorem pad_len {s : List UInt8} {j : Nat} (h : 32 ≤ s.length) (hj : j ≤ 32) : (pad s j).length = 32 := by
  unfold pad; rw [List.length_append, List.length_take, List.length_replicate]; omega
theorem pad_zero (s : List UInt8) : pad s 0 = zeros := rfl
theorem pad_all {s : List UInt8} : pad s 32 = s.take 32 := by unfold pad; simp
theorem pad_set {s : List UInt8} {j : Nat} (h : 32 ≤ s.length) (hj : j < 32) {c : UInt8} (hc : s[j]'(by omega) = c) : (pad s j).set j c = pad s (j + 1) := by
  unfold pad
  have hl : (s.take j).length = j := by rw [List.length_take]; omega
  rw [List.set_append_right _ _ (by omega), hl, Nat.sub_self, show 32 - j = (32 - (j + 1)) + 1 by omega, List.replicate_succ, List.set_cons_zero, List.take_succ_eq_append_getElem (by omega), hc, List.append_assoc, List.singleton_append]
theorem readB_no1 {s : List UInt8} (h : s.length < 32) : readB s = none := by unfold readB; rw [if_pos h]
theorem readB_no2 {s : List UInt8} (h : (WireP.takeL (s.drop 32)).2.2 ≠ 0) : readB s = none := by unfold readB; split <;> first | rfl | rw [if_pos h]
theorem readB_no3 {s : List UInt8} {n1 : Nat} {r1 : List UInt8} {e1 : Int} (h : WireP.takeL (s.drop 32) = (n1, r1, e1)) (h2 : (WireP.takeL r1).2.2 ≠ 0) : readB s = none := by
  unfold readB
  split
  · rfl
  split
  · rfl
  rw [h]
  dsimp only
  rw [if_pos h2]
theorem readB_go {s : List UInt8} {n1 n2 : Nat} {r1 r2 : List UInt8} (h32 : 32 ≤ s.length) (h : WireP.takeL (s.drop 32) = (n1, r1, 0)) (h2 : WireP.takeL r1 = (n2, r2, 0)) : readB s = readE (n1 : Int) n2 (s.take 32) r2 := by
  unfold readB
  rw [if_neg (by omega), h]
  dsimp only
  rw [if_neg (by simp), h2]
  dsimp only
  rw [if_neg (by simp)]
theorem readE_big {f : Int} {n : Nat} {p r : List UInt8} (h : 256 < n) : readE f n p r = none := by unfold readE; rw [if_pos (Or.inr h)]
theorem readE_none {f : Int} {n : Nat} {p r : List UInt8} (h : evsT n r = none) : readE f n p r = none := by
  unfold readE
  split
  · rfl
  · rw [h]
theorem readE_left {f : Int} {n : Nat} {p r q : List UInt8} {l : List Ev} (h : evsT n r = some (l, q)) (hq : q ≠ []) : readE f n p r = none := by
  unfold readE
  split
  · rfl
  · rw [h]; dsimp only; rw [if_neg (fun hh => hq hh.1)]
theorem readE_not {f : Int} {n : Nat} {p r q : List UInt8} {l : List Ev} (h : evsT n r = some (l, q)) (hb : isB (f, l, p) = false) : readE f n p r = none := by
  unfold readE
  split
  · rfl
  · rw [h]; dsimp only; rw [if_neg (by rw [hb]; simp)]
theorem readE_yes {f : Int} {n : Nat} {p r : List UInt8} {l : List Ev} (h : evsT n r = some (l, [])) (hb : isB (f, l, p) = true) : readE f n p r = some (f, l, p) := by
  have h1 := isB_iff.1 hb
  dsimp only at h1
  have h2 := (evsT_back _ _ _ _ h).2.1
  unfold readE
  rw [if_neg (by omega), h]
  dsimp only
  rw [if_pos ⟨rfl, hb⟩]
theorem evT_no1 {s : List UInt8} {t r : List UInt8} {e : Int} (h : takeT s = (t, r, e)) (he : e ≠ 0) : evT s = none := by unfold evT; rw [h, if_pos he]
theorem evT_no2 {s : List UInt8} {t r : List UInt8} (h : takeT s = (t, r, 0)) (he : (EvP.getE t).2 ≠ 0) : evT s = none := by unfold evT; rw [h, if_neg (by simp), if_pos he]
theorem evT_yes {s : List UInt8} {t r : List UInt8} {x : Ev} (h : takeT s = (t, r, 0)) (he : EvP.getE t = (x, 0)) : evT s = some (x, r) := by unfold evT; rw [h, if_neg (by simp), he, if_neg (by simp)]
end BatP
theorem berget (l : List UInt8) (hl : l.length ≤ 40001) (w : World) : Calls Tryd.prog 75 #[.string (bstr l)] w fun e w' => e = .returned (EvP.getV l) ∧ Below w.heap.size w w' := by
  cases l with
  | nil => exact erget_nil w
  | cons c l => exact erget_cons c l (by simpa using hl) w

set_option maxHeartbeats 4000000 in
set_option maxRecDepth 100000 in
theorem brbody_s (s : List UInt8) (hs : s.length < 32) (w : World) : Calls Tryd.prog 51 #[.string (bstr s)] w fun e w' => BatP.BodyP (BatP.readB s) w e w' := by
  have sh := (Hp.Sh.start (fun _ _ => trivial) : Hp.Sh w w [] (fun _ => True))
  have HX := Lib.hid (BatP.readB_no1 hs)
  obtain ⟨N, hN⟩ : ∃ N, N = s.length := ⟨_, rfl⟩
  have n2 : (bstr s).size = N := by rw [bstr_size, hN]
  have d1 : (N : Int) < 32 := by omega
  have d1N : N < 32 := by omega
  have HQ := Lib.hid (show BatP.zeros.length = BatP.zeros.length from rfl)
  have HPL := Lib.hid (show BatP.zeros.length = 32 from rfl)
  clear hN hs
  go_enter Tryd.func51, Tryd.ntmps51
  have F := sh.fxb
  have tok_b2 : True := trivial
  have tok_b4 : True := trivial
  go_wp2_with (first
      | ((with_reducible refine Hp.at_ld 27 ?_); (refine Hp.bld_g 0 sh rfl rfl rfl (by kernel_rfl) (BatP.bt_size HPL.out) ?_); go_simp)
      | ((with_reducible refine Hp.at_st 27 ?_ ?_); (rotate_left; exact rfl); (refine Hp.bst_all 1 sh rfl rfl rfl HQ.out (BatP.bt_size' rfl) ?_); clear sh; (try clear F); go_simp; intro w1 sh; (have F := sh.fxb))
      | ((with_reducible first | refine Hp.wpl_box sh ?_ ?_ | refine Hp.wpa sh ?_ ?_ | refine Hp.atl_store ?_ ?_); exact rfl; (try (refine Hp.wsB sh ?_)); clear sh; (try clear F); go_simp; (first | (have tok := tok_b2; clear tok tok_b2; intro b2 w1 sh) | (have tok := tok_b4; clear tok tok_b4; intro b4 w1 sh) | intro b w1 sh | intro w1 sh); have F := sh.fxb)
      | fail)
  exact bodyPost_ret (Hp.res_ct rfl rfl (sh.load 1 rfl (by kernel_rfl) (BatP.bt_size rfl))) rfl (BatP.BodyP.no HX.out rfl rfl sh.below)

set_option maxHeartbeats 4000000 in
set_option maxRecDepth 100000 in
theorem brbody_l (s : List UInt8) (h32 : 32 ≤ s.length) (hs : s.length ≤ 40000) (w : World) : Calls Tryd.prog 51 #[.string (bstr s)] w fun e w' => BatP.BodyP (BatP.readB s) w e w' := by
  have sh := (Hp.Sh.start (fun _ _ => trivial) : Hp.Sh w w [] (fun _ => True))
  obtain ⟨N, hN⟩ : ∃ N, N = s.length := ⟨_, rfl⟩
  have n2 : (bstr s).size = N := by rw [bstr_size, hN]
  have d1 : ¬ (N : Int) < 32 := by omega
  have d1N : ¬ N < 32 := by omega
  have d2 : 32 ≤ N := by omega
  have d2I : (32 : Int) ≤ (N : Int) := by omega
  have n3 : (bstr s).extract 32 N = bstr (s.drop 32) := by rw [← n2, WireP.drop_str, bstr_data]
  have HSL := Lib.hid (And.intro h32 hN)
  have hl0 : (s.drop 32).length ≤ 40000 := by rw [List.length_drop]; omega
  have hl32 : (s.take 32).length = 32 := by rw [List.length_take]; omega
  have HQ := Lib.hid (show (s.take 32).length = BatP.zeros.length from hl32)
  have HPL := Lib.hid hl32
  have HS := Lib.hid (And.intro hs hl0)
  clear hN hs hl0 hl32 h32
  go_enter Tryd.func51, Tryd.ntmps51
  have F := sh.fxb
  have tok_b2 : True := trivial
  have tok_b4 : True := trivial
  go_wp2_with (first
      | ((with_reducible first | refine Hp.wpl_box sh ?_ ?_ | refine Hp.wpa sh ?_ ?_ | refine Hp.atl_store ?_ ?_); exact rfl; (try (refine Hp.wsB sh ?_)); clear sh; (try clear F); go_simp; (first | (have tok := tok_b2; clear tok tok_b2; intro b2 w1 sh) | (have tok := tok_b4; clear tok tok_b4; intro b4 w1 sh) | intro b w1 sh | intro w1 sh); have F := sh.fxb)
      | fail)
  go_loopw [5] (fun i wr => ∃ j : Nat, i = .int .i64 j ∧ j ≤ 32 ∧ Hp.Sh w wr [(b4, BatP.btA 0 (.slice none 0 0) (BatP.pad s j), 27), (b2, BatP.btA 0 (.slice none 0 0) BatP.zeros, 27)] (fun _ => True)) (fun i _ => 32 - (intOf i).toNat)
  case atStart => exact ⟨0, rfl, by omega, sh⟩
  case round =>
    clear sh F
    obtain ⟨j, rfl, hj, sh⟩ := hrel
    by_cases hlt : j < 32
    · have hlI : (j : Int) < 32 := by omega
      have hjN : j < N := by omega
      have hjNI : (j : Int) < (N : Int) := by omega
      have hjz : j < (bstr s).size := by rw [n2]; exact hjN
      have hjs : j < s.length := by have := HSL.out; omega
      obtain ⟨c, hc⟩ : ∃ c, s[j] = c := ⟨_, rfl⟩
      have n5 : (bstr s)[j]'hjz = c := by rw [← hc]; rfl
      have HP := Lib.hid (BatP.pad_set HSL.out.1 hlt hc)
      have HL := Lib.hid (show j < (BatP.pad s j).length by rw [BatP.pad_len HSL.out.1 (by omega)]; exact hlt)
      clear hc
      have F := sh.fxb
      go_wp2_with (first
          | ((with_reducible refine Hp.at_st 5 ?_ ?_); (rotate_left; exact rfl); (refine Hp.bst_byte 0 sh rfl rfl HL.out rfl (by kernel_rfl) ?_); clear sh; (try clear F); go_simp; intro w1 sh; rw [HP.out] at sh; (have F := sh.fxb))
          | ((with_reducible first | refine Hp.wpl_box sh ?_ ?_ | refine Hp.wpa sh ?_ ?_ | refine Hp.atl_store ?_ ?_); exact rfl; (try (refine Hp.wsB sh ?_)); clear sh; (try clear F); go_simp; (first | intro b w1 sh | intro w1 sh); have F := sh.fxb)
          | fail)
      go_roundw
      case rel => exact ⟨j + 1, by go_num, by omega, sh⟩
      case measure => simp [intOf]; omega
    · obtain rfl : j = 32 := by omega
      rw [BatP.pad_all] at sh
      clear hj hlt
      have K1 := Lib.hid (fun W => wireRefTake_any (bstr (s.drop 32)) W (by have := HS.out.2; rw [bstr_size]; omega))
      rw [bstr_data] at K1
      rcases hx1 : WireP.takeL (s.drop 32) with ⟨n1, r1, e1⟩
      rw [WireP.takeV_of hx1] at K1
      dsimp only at K1
      have hn1 := (BatP.takeL_le hx1).1
      have hr1 : r1.length ≤ 40000 := Nat.le_trans (BatP.takeL_le hx1).2 HS.out.2
      by_cases he1 : e1 = 0
      · subst he1
        have K2 := Lib.hid (fun W => wireRefTake_any (bstr r1) W (by rw [bstr_size]; omega))
        rw [bstr_data] at K2
        rcases hx2 : WireP.takeL r1 with ⟨n2', r2, e2⟩
        rw [WireP.takeV_of hx2] at K2
        dsimp only at K2
        have hn2 := (BatP.takeL_le hx2).1
        have hr2 : r2.length ≤ 40000 := Nat.le_trans (BatP.takeL_le hx2).2 hr1
        by_cases he2 : e2 = 0
        · subst he2
          have HG := Lib.hid (BatP.readB_go HSL.out.1 hx1 hx2)
          by_cases hbig : 256 < n2'
          · have HX := Lib.hid (HG.out.trans (BatP.readE_big hbig))
            have d3 : decide ((256 : Int) < (n2' : Int)) = true := by simp; omega
            have d3N : decide (256 < n2') = true := by simp; omega
            have d3P : (256 : Int) < (n2' : Int) := by omega
            clear hx1 hx2 hbig
            have F := sh.fxb
            go_wp2_with (first
                | ((with_reducible first | refine Hp.wpl_box sh ?_ ?_ | refine Hp.wpa sh ?_ ?_ | refine Hp.atl_store ?_ ?_); exact rfl; (try (refine Hp.wsB sh ?_)); clear sh; (try clear F); go_simp; (first | intro b w1 sh | intro w1 sh); have F := sh.fxb)
                | fail)
            go_fit (K1.out _)
            rintro e w1 ⟨rfl, hb⟩
            replace sh := sh.call hb; clear hb; (try clear F); have F := sh.fxb
            go_wp2_with (first
                | ((with_reducible refine Hp.at_st 25 ?_ ?_); (rotate_left; exact rfl); (refine Hp.bst_first 0 sh rfl rfl rfl (by kernel_rfl) ?_); clear sh; (try clear F); go_simp; intro w1 sh; (have F := sh.fxb))
                | ((with_reducible first | refine Hp.wpl_box sh ?_ ?_ | refine Hp.wpa sh ?_ ?_ | refine Hp.atl_store ?_ ?_); exact rfl; (try (refine Hp.wsB sh ?_)); clear sh; (try clear F); go_simp; (first | intro b w1 sh | intro w1 sh); have F := sh.fxb)
                | fail)
            go_fit (K2.out _)
            rintro e w1 ⟨rfl, hb⟩
            replace sh := sh.call hb; clear hb; (try clear F); have F := sh.fxb
            go_wp2_with (first
                | ((with_reducible refine Hp.at_ld 27 ?_); (refine Hp.bld_g 0 sh rfl rfl rfl (by kernel_rfl) (BatP.bt_size HPL.out) ?_); go_simp)
                | ((with_reducible refine Hp.at_st 27 ?_ ?_); (rotate_left; exact rfl); (refine Hp.bst_all 1 sh rfl rfl rfl HQ.out (BatP.bt_size' rfl) ?_); clear sh; (try clear F); go_simp; intro w1 sh; (have F := sh.fxb))
                | ((with_reducible first | refine Hp.wpl_box sh ?_ ?_ | refine Hp.wpa sh ?_ ?_ | refine Hp.atl_store ?_ ?_); exact rfl; (try (refine Hp.wsB sh ?_)); clear sh; (try clear F); go_simp; (first | intro b w1 sh | intro w1 sh); have F := sh.fxb)
                | fail)
            exact bodyPost_ret (Hp.res_ct rfl rfl (sh.load 1 rfl (by kernel_rfl) (BatP.bt_size HPL.out))) rfl (BatP.BodyP.no HX.out rfl HPL.out sh.below)
          · have d3 : decide ((256 : Int) < (n2' : Int)) = false := by simp; omega
            have d3N : decide (256 < n2') = false := by simp; omega
            have d3P : ¬ (256 : Int) < (n2' : Int) := by omega
            have z1 : IntKind.i64.wrap (n2' : Int) = (n2' : Int) := by rw [IntWalk.i64_in _ (by omega)]
            clear hx1 hx2
            have F := sh.fxb
            go_wp2_with (first
                | ((with_reducible first | refine Hp.wpl_box sh ?_ ?_ | refine Hp.wpa sh ?_ ?_ | refine Hp.atl_store ?_ ?_); exact rfl; (try (refine Hp.wsB sh ?_)); clear sh; (try clear F); go_simp; (first | intro b w1 sh | intro w1 sh); have F := sh.fxb)
                | fail)
            go_fit (K1.out _)
            rintro e w1 ⟨rfl, hb⟩
            replace sh := sh.call hb; clear hb; (try clear F); have F := sh.fxb
            go_wp2_with (first
                | ((with_reducible refine Hp.at_st 25 ?_ ?_); (rotate_left; exact rfl); (refine Hp.bst_first 0 sh rfl rfl rfl (by kernel_rfl) ?_); clear sh; (try clear F); go_simp; intro w1 sh; (have F := sh.fxb))
                | ((with_reducible first | refine Hp.wpl_box sh ?_ ?_ | refine Hp.wpa sh ?_ ?_ | refine Hp.atl_store ?_ ?_); exact rfl; (try (refine Hp.wsB sh ?_)); clear sh; (try clear F); go_simp; (first | intro b w1 sh | intro w1 sh); have F := sh.fxb)
                | fail)
            go_fit (K2.out _)
            rintro e w1 ⟨rfl, hb⟩
            replace sh := sh.call hb; clear hb; (try clear F); have F := sh.fxb
            go_wp2_with (first
                | ((with_reducible first | refine Hp.wpl_box sh ?_ ?_ | refine Hp.wpa sh ?_ ?_ | refine Hp.atl_store ?_ ?_); exact rfl; (try (refine Hp.wsB sh ?_)); clear sh; (try clear F); go_simp; (first | intro b w1 sh | intro w1 sh); have F := sh.fxb)
                | fail)
            clear d3 d3N d3P
            have HR0 := Lib.hid (Hp.RowIs.nil 47 6)
            have HG0 := Lib.hid (BatP.GAt.start (many := n2') hr2)
            have HN := Lib.hid hbig
            clear hbig hr2
            go_loopw [10, 12] (fun lf i wr => ∃ (j : Nat) (R : List Hp.Blk) (v : Value) (told : List EvP.Ev) (rest : List UInt8), lf = .string (bstr rest) ∧ i = .int .i64 j ∧ j ≤ n2' ∧ Hid (Hp.RowIs 47 6 v j (told.flatMap EvP.evc) R ∧ BatP.GAt n2' r2 j told rest) ∧ Hp.Sh w wr ((b4, BatP.btA (n1 : Int) v (s.take 32), 27) :: (b2, BatP.btA 0 (.slice none 0 0) BatP.zeros, 27) :: R) (fun _ => True)) (fun _ i _ => n2' - (intOf i).toNat)
            case atStart => exact ⟨0, [], _, [], r2, rfl, rfl, by omega, ⟨HR0.out, HG0.out⟩, sh⟩
            case round =>
              clear sh F HR0 HG0
              obtain ⟨j, R, v, told, rest, rfl, rfl, hj, HK, sh⟩ := hrel
              have HR := Lib.hid HK.out.1
              have HA0 := Lib.hid HK.out.2
              have hrest := HA0.out.2.1
              have hnm := HN.out
              clear HK
              obtain ⟨s1, c1, rfl, -, hc1, hcm1⟩ := HR.out.slice
              by_cases hlt : j < n2'
              · have hlI : (j : Int) < (n2' : Int) := by omega
                have K3 := Lib.hid (fun W => wireRefTakeText_any (bstr rest) W (by rw [bstr_size]; omega))
                rw [bstr_data, BatP.takeV] at K3
                have hlen := (BatP.takeT_len rest).1
                rcases hx3 : BatP.takeT rest with ⟨t9, r9, e9⟩
                rw [hx3] at K3 hlen
                dsimp only at K3 hlen
                by_cases he9 : e9 = 0
                · subst he9
                  have K4 := Lib.hid (fun W => berget t9 (by omega) W)
                  rcases hg : EvP.getE t9 with ⟨⟨q, t, p, kd, a, b⟩, e8⟩
                  rw [show EvP.getV t9 = .tuple #[.agg #[.int .u64 q, .int .i64 t, .int .i64 p, .int .i64 kd, .int .i64 a, .int .i64 b], .int .i64 e8] by unfold EvP.getV; rw [hg]; rfl] at K4
                  by_cases he8 : e8 = 0
                  · subst he8
                    have HA := Lib.hid (HA0.out.yes hlt (BatP.evT_yes hx3 hg))
                    clear hx3 hg hlen
                    have F := sh.fxb
                    go_wp2_with (first
                        | ((with_reducible first | refine Hp.wpl_box sh ?_ ?_ | refine Hp.wpa sh ?_ ?_ | refine Hp.atl_store ?_ ?_); exact rfl; (try (refine Hp.wsB sh ?_)); clear sh; (try clear F); go_simp; (first | intro b w1 sh | intro w1 sh); have F := sh.fxb)
                        | fail)
                    go_fit (K3.out _)
                    rintro e w1 ⟨rfl, hb⟩
                    replace sh := sh.call hb; clear hb; (try clear F); have F := sh.fxb
                    go_wp2_with (first
                        | ((with_reducible first | refine Hp.wpl_box sh ?_ ?_ | refine Hp.wpa sh ?_ ?_ | refine Hp.atl_store ?_ ?_); exact rfl; (try (refine Hp.wsB sh ?_)); clear sh; (try clear F); go_simp; (first | intro b w1 sh | intro w1 sh); have F := sh.fxb)
                        | fail)
                    go_fit (K4.out _)
                    rintro e w1 ⟨rfl, hb⟩
                    replace sh := sh.call hb; clear hb; (try clear F); have F := sh.fxb
                    have tok_b16 : True := trivial
                    go_wp2_with (first
                        | ((with_reducible refine Hp.atl_lit ?_ ?_); exact rfl; (refine wp_lits (m := 1) (c := #[.int .u64 q, .int .i64 t, .int .i64 p, .int .i64 kd, .int .i64 a, .int .i64 b]) (t := 47) (fun w => by kernel_rfl) sh ?_); clear sh; (try clear F); intro bl w1 sh; replace sh := sh.freeze1 (vs := EvP.evc (q, t, p, kd, a, b)) (fun i v h => by simpa [EvP.evc] using h); replace sh : Hp.Sh w _ (R ++ [_, _, _]) _ := Hp.Sh.front (A := [_, _, _]) sh; (have F : True := trivial); go_simp)
                        | ((with_reducible refine Hp.atl_append 81 ?_ ?_); exact rfl; (refine Hp.wp_append (R := R) (H := [_, _, _]) (news := EvP.evc (q, t, p, kd, a, b)) Tryd.i_evt Tryd.underlying24 (by decide) rfl (by decide) sh HR.out rfl rfl rfl sh.data.1 (fun h => by cases h) (Hp.ones_mem rfl) (by omega) ?_); clear sh; (try clear F); intro v1 R1 w1 sh hr; rw [BatP.evs_app] at hr; obtain ⟨s2, c2, rfl, -, -, -⟩ := hr.slice; have HR1 := Lib.hid hr; clear hr; replace sh : Hp.Sh w _ (_ :: _ :: _ :: R1) _ := sh.perm List.perm_append_comm; (have F := sh.fxb); go_simp)
                        | ((with_reducible refine Hp.at_st 24 ?_ ?_); (rotate_left; exact rfl); (refine Hp.bst_evs 1 sh rfl rfl rfl (by kernel_rfl) ?_); clear sh; (try clear F); go_simp; intro w1 sh; (have F := sh.fxb))
                        | ((with_reducible first | refine Hp.wpl_box sh ?_ ?_ | refine Hp.wpa sh ?_ ?_ | refine Hp.atl_store ?_ ?_); exact rfl; (try (refine Hp.wsB sh ?_)); clear sh; (try clear F); go_simp; (first | (have tok := tok_b16; clear tok tok_b16; intro b16 w1 sh) | intro b w1 sh | intro w1 sh); have F := sh.fxb)
                        | fail)
                    go_roundw
                    case rel => exact ⟨j + 1, R1, _, told ++ [(q, t, p, kd, a, b)], r9, rfl, by go_num, by omega, ⟨HR1.out, HA.out⟩, sh.drop1.imp (fun _ _ => trivial)⟩
                    case measure => simp [intOf]; omega
                  · have HX := Lib.hid (HG.out.trans (BatP.readE_none (HA0.out.no hlt (BatP.evT_no2 hx3 (by rw [hg]; exact he8)))))
                    have d3 : (e8 != 0) = true := by simpa using he8
                    clear hx3 hg hlen he8
                    have F := sh.fxb
                    go_wp2_with (first
                        | ((with_reducible first | refine Hp.wpl_box sh ?_ ?_ | refine Hp.wpa sh ?_ ?_ | refine Hp.atl_store ?_ ?_); exact rfl; (try (refine Hp.wsB sh ?_)); clear sh; (try clear F); go_simp; (first | intro b w1 sh | intro w1 sh); have F := sh.fxb)
                        | fail)
                    go_fit (K3.out _)
                    rintro e w1 ⟨rfl, hb⟩
                    replace sh := sh.call hb; clear hb; (try clear F); have F := sh.fxb
                    go_wp2_with (first
                        | ((with_reducible first | refine Hp.wpl_box sh ?_ ?_ | refine Hp.wpa sh ?_ ?_ | refine Hp.atl_store ?_ ?_); exact rfl; (try (refine Hp.wsB sh ?_)); clear sh; (try clear F); go_simp; (first | intro b w1 sh | intro w1 sh); have F := sh.fxb)
                        | fail)
                    go_fit (K4.out _)
                    rintro e w1 ⟨rfl, hb⟩
                    replace sh := sh.call hb; clear hb; (try clear F); have F := sh.fxb
                    have tok_b16 : True := trivial
                    go_wp2_with (first
                        | ((with_reducible refine Hp.at_ld 27 ?_); (refine Hp.bld_g 1 sh rfl rfl rfl (by kernel_rfl) (BatP.bt_size HPL.out) ?_); go_simp)
                        | ((with_reducible refine Hp.at_st 27 ?_ ?_); (rotate_left; exact rfl); (refine Hp.bst_all 2 sh rfl rfl rfl HQ.out (BatP.bt_size' rfl) ?_); clear sh; (try clear F); go_simp; intro w1 sh; (have F := sh.fxb))
                        | ((with_reducible first | refine Hp.wpl_box sh ?_ ?_ | refine Hp.wpa sh ?_ ?_ | refine Hp.atl_store ?_ ?_); exact rfl; (try (refine Hp.wsB sh ?_)); clear sh; (try clear F); go_simp; (first | (have tok := tok_b16; clear tok tok_b16; intro b16 w1 sh) | intro b w1 sh | intro w1 sh); have F := sh.fxb)
                        | fail)
                    exact bodyPost_ret (Hp.res_ct rfl rfl (sh.load 2 rfl (by kernel_rfl) (BatP.bt_size HPL.out))) rfl (BatP.BodyP.no HX.out rfl HPL.out sh.below)
                · have HX := Lib.hid (HG.out.trans (BatP.readE_none (HA0.out.no hlt (BatP.evT_no1 hx3 he9))))
                  have d3 : (e9 != 0) = true := by simpa using he9
                  clear hx3 hlen he9
                  have F := sh.fxb
                  go_wp2_with (first
                      | ((with_reducible first | refine Hp.wpl_box sh ?_ ?_ | refine Hp.wpa sh ?_ ?_ | refine Hp.atl_store ?_ ?_); exact rfl; (try (refine Hp.wsB sh ?_)); clear sh; (try clear F); go_simp; (first | intro b w1 sh | intro w1 sh); have F := sh.fxb)
                      | fail)
                  go_fit (K3.out _)
                  rintro e w1 ⟨rfl, hb⟩
                  replace sh := sh.call hb; clear hb; (try clear F); have F := sh.fxb
                  go_wp2_with (first
                      | ((with_reducible refine Hp.at_ld 27 ?_); (refine Hp.bld_g 0 sh rfl rfl rfl (by kernel_rfl) (BatP.bt_size HPL.out) ?_); go_simp)
                      | ((with_reducible refine Hp.at_st 27 ?_ ?_); (rotate_left; exact rfl); (refine Hp.bst_all 1 sh rfl rfl rfl HQ.out (BatP.bt_size' rfl) ?_); clear sh; (try clear F); go_simp; intro w1 sh; (have F := sh.fxb))
                      | ((with_reducible first | refine Hp.wpl_box sh ?_ ?_ | refine Hp.wpa sh ?_ ?_ | refine Hp.atl_store ?_ ?_); exact rfl; (try (refine Hp.wsB sh ?_)); clear sh; (try clear F); go_simp; (first | intro b w1 sh | intro w1 sh); have F := sh.fxb)
                      | fail)
                  exact bodyPost_ret (Hp.res_ct rfl rfl (sh.load 1 rfl (by kernel_rfl) (BatP.bt_size HPL.out))) rfl (BatP.BodyP.no HX.out rfl HPL.out sh.below)
              · obtain rfl : j = n2' := by omega
                have hfull := HA0.out.full (Nat.le_refl _)
                have htl := HA0.out.1
                have hfr := Hp.row_new (Hp.Sh.front (A := [_, _]) sh) HR.out
                have HFR := Lib.hid hfr
                replace sh : Hp.Sh w _ [_, _] _ := (Hp.Sh.front (A := [_, _]) sh).freeze HR.out
                have hEl := BatP.evs_b hfull
                have K5 := Lib.hid (fun W q => bris (n1 : Int) s1 j c1 told (s.take 32) htl.symm hc1 (by omega) hEl.1 W q)
                replace sh : Hp.Sh w _ [(b2, BatP.btA 0 (.slice none 0 0) BatP.zeros, 27), (b4, BatP.btA (n1 : Int) (.slice s1 j c1) (s.take 32), 27)] (fun W => Hp.RdV W s1 (told.flatMap EvP.evc)) := (sh.perm (List.Perm.swap _ _ _)).imp (fun _ h => h.1)
                by_cases hr0 : rest = []
                · subst hr0
                  have n1' : (bstr []).toList.isEmpty = true := by rw [bstr_toList]; rfl
                  cases hb : BatP.isB ((n1 : Int), told, s.take 32) with
                  | false =>
                    have HX := Lib.hid (HG.out.trans (BatP.readE_not hfull hb))
                    rw [hb] at K5
                    clear hfull hEl hb hfr htl
                    have F := sh.fxb
                    go_wp2_with (first
                        | ((with_reducible first | refine Hp.wpl_box sh ?_ ?_ | refine Hp.wpa sh ?_ ?_ | refine Hp.atl_store ?_ ?_); exact rfl; (try (refine Hp.wsB sh ?_)); clear sh; (try clear F); go_simp; (first | intro b w1 sh | intro w1 sh); have F := sh.fxb)
                        | fail)
                    refine Hp.region_soft (by kernel_rfl) sh (fun _ q => Hp.Sh.drop1 q) ?_; clear sh; (try clear F)
                    (try simp only [Hp.p2, Hp.p3])
                    (refine Hp.tk (i := 0) (oi := ⟨some 87, Op.load 27 (Operand.tmp 4), _, _, _, none⟩) _ (fun _ q => Hp.Sh.drop1 q) (fun W hW => (Hp.bexec_load 0 hW rfl rfl (by kernel_rfl) (BatP.bt_size HPL.out))) ?_)
                    (refine Hp.tks (i := 1) (oi := ⟨some 88, Op.move (Operand.tmp 10), _, _, _, none⟩) (fun _ q => Hp.Sh.drop1 q) ?_)
                    (refine Hp.tks (i := 2) (oi := ⟨some 89, Op.binOp BinOp.eql 9 (Operand.tmp 88) (Operand.const (Value.string { data := #[] })) 9, _, _, _, none⟩) (fun _ q => Hp.Sh.drop1 q) ?_)
                    (refine Hp.tks (i := 3) (oi := ⟨some 90, Op.move (Operand.tmp 89), _, _, _, none⟩) (fun _ q => Hp.Sh.drop1 q) ?_)
                    (first | (refine Hp.tk (i := 4) (oi := ⟨some 91, Op.load 27 (Operand.tmp 4), _, _, _, some (3, true)⟩) _ (fun _ q => Hp.Sh.drop1 q) (fun W hW => (Hp.bexec_load 0 hW rfl rfl (by kernel_rfl) (BatP.bt_size HPL.out))) ?_) | (refine Hp.skp (i := 4) (oi := ⟨some 91, Op.load 27 (Operand.tmp 4), _, _, _, some (3, true)⟩) (fun _ q => Hp.Sh.drop1 q) ?_))
                    (first | (refine Hp.cl (i := 5) (oi := ⟨some 92, Op.call { callee := Callee.value (Operand.func 41), args := #[Operand.tmp 91], argTypes := #[27] }, _, _, _, some (3, true)⟩) _ _ _ (fun _ q => Hp.Sh.drop1 q) (fun W hW => by go_simp) (fun W hW => (K5.out W hW.data)) ?_) | (refine Hp.skp (i := 5) (oi := ⟨some 92, Op.call { callee := Callee.value (Operand.func 41), args := #[Operand.tmp 91], argTypes := #[27] }, _, _, _, some (3, true)⟩) (fun _ q => Hp.Sh.drop1 q) ?_))
                    (refine Hp.tks (i := 6) (oi := ⟨some 93, Op.pick (Operand.tmp 90) (Operand.tmp 92) (Operand.const (Value.bool false)), _, _, _, none⟩) (fun _ q => Hp.Sh.drop1 q) ?_)
                    refine Hp.soft_make (i := 7) (o := ⟨none, Op.store 27 (Operand.tmp 2) (Operand.tmp 87), _, _, _, none⟩) (by kernel_rfl) rfl (by rfl) (fun w1 sh K hK => ?_); (try clear F); (try have F := Hp.Sh.facts sh); (try simp only [Hp.Facts, Hp.CellsAt, BatP.cellsAt_bt, Nat.reduceAdd, Hp.c1, Hp.c2] at F); (refine Hp.bst_all 0 sh rfl rfl rfl HQ.out (BatP.bt_size' rfl) ?_; clear sh; go_simp; intro w1 sh); refine hK _ _ _ _ _ _ (fun _ q => Hp.Sh.drop1 q) (fun _ q => q) sh ?_; clear hK K; clear sh; (try clear F); (try simp only [Act.put, Hp.p1, Hp.p2, Hp.p3])
                    (refine Hp.tks (i := 8) (oi := ⟨some 3, Op.assign (Operand.tmp 93), _, _, _, none⟩) (fun _ q => Hp.Sh.drop1 q) ?_)
                    refine Hp.soft_done (by kernel_rfl) (fun w1 sh => ?_) _; (try clear F); (try have F := Hp.Sh.facts sh); (try simp only [Hp.Facts, Hp.CellsAt, BatP.cellsAt_bt, Nat.reduceAdd, Hp.c1, Hp.c2] at F)
                    go_wp2_with (first
                        | ((with_reducible first | refine Hp.wpl_box sh ?_ ?_ | refine Hp.wpa sh ?_ ?_ | refine Hp.atl_store ?_ ?_); exact rfl; (try (refine Hp.wsB sh ?_)); clear sh; (try clear F); go_simp; (first | intro b w1 sh | intro w1 sh); have F := sh.fxb)
                        | fail)
                    exact bodyPost_ret (Hp.res_ct rfl rfl (sh.load 0 rfl (by kernel_rfl) (BatP.bt_size HPL.out))) rfl (BatP.BodyP.no HX.out rfl HPL.out sh.below)
                  | true =>
                    have HX := Lib.hid (HG.out.trans (BatP.readE_yes hfull hb))
                    rw [hb] at K5
                    have HTL := Lib.hid htl
                    clear hfull hEl hb hfr htl
                    have F := sh.fxb
                    go_wp2_with (first
                        | ((with_reducible first | refine Hp.wpl_box sh ?_ ?_ | refine Hp.wpa sh ?_ ?_ | refine Hp.atl_store ?_ ?_); exact rfl; (try (refine Hp.wsB sh ?_)); clear sh; (try clear F); go_simp; (first | intro b w1 sh | intro w1 sh); have F := sh.fxb)
                        | fail)
                    refine Hp.region_soft (by kernel_rfl) sh (fun _ q => Hp.Sh.drop1 q) ?_; clear sh; (try clear F)
                    (try simp only [Hp.p2, Hp.p3])
                    (refine Hp.tk (i := 0) (oi := ⟨some 87, Op.load 27 (Operand.tmp 4), _, _, _, none⟩) _ (fun _ q => Hp.Sh.drop1 q) (fun W hW => (Hp.bexec_load 0 hW rfl rfl (by kernel_rfl) (BatP.bt_size HPL.out))) ?_)
                    (refine Hp.tks (i := 1) (oi := ⟨some 88, Op.move (Operand.tmp 10), _, _, _, none⟩) (fun _ q => Hp.Sh.drop1 q) ?_)
                    (refine Hp.tks (i := 2) (oi := ⟨some 89, Op.binOp BinOp.eql 9 (Operand.tmp 88) (Operand.const (Value.string { data := #[] })) 9, _, _, _, none⟩) (fun _ q => Hp.Sh.drop1 q) ?_)
                    (refine Hp.tks (i := 3) (oi := ⟨some 90, Op.move (Operand.tmp 89), _, _, _, none⟩) (fun _ q => Hp.Sh.drop1 q) ?_)
                    (first | (refine Hp.tk (i := 4) (oi := ⟨some 91, Op.load 27 (Operand.tmp 4), _, _, _, some (3, true)⟩) _ (fun _ q => Hp.Sh.drop1 q) (fun W hW => (Hp.bexec_load 0 hW rfl rfl (by kernel_rfl) (BatP.bt_size HPL.out))) ?_) | (refine Hp.skp (i := 4) (oi := ⟨some 91, Op.load 27 (Operand.tmp 4), _, _, _, some (3, true)⟩) (fun _ q => Hp.Sh.drop1 q) ?_))
                    (first | (refine Hp.cl (i := 5) (oi := ⟨some 92, Op.call { callee := Callee.value (Operand.func 41), args := #[Operand.tmp 91], argTypes := #[27] }, _, _, _, some (3, true)⟩) _ _ _ (fun _ q => Hp.Sh.drop1 q) (fun W hW => by go_simp) (fun W hW => (K5.out W hW.data)) ?_) | (refine Hp.skp (i := 5) (oi := ⟨some 92, Op.call { callee := Callee.value (Operand.func 41), args := #[Operand.tmp 91], argTypes := #[27] }, _, _, _, some (3, true)⟩) (fun _ q => Hp.Sh.drop1 q) ?_))
                    (refine Hp.tks (i := 6) (oi := ⟨some 93, Op.pick (Operand.tmp 90) (Operand.tmp 92) (Operand.const (Value.bool false)), _, _, _, none⟩) (fun _ q => Hp.Sh.drop1 q) ?_)
                    refine Hp.soft_make (i := 7) (o := ⟨none, Op.store 27 (Operand.tmp 2) (Operand.tmp 87), _, _, _, none⟩) (by kernel_rfl) rfl (by rfl) (fun w1 sh K hK => ?_); (try clear F); (try have F := Hp.Sh.facts sh); (try simp only [Hp.Facts, Hp.CellsAt, BatP.cellsAt_bt, Nat.reduceAdd, Hp.c1, Hp.c2] at F); (refine Hp.bst_all 0 sh rfl rfl rfl HQ.out (BatP.bt_size' rfl) ?_; clear sh; go_simp; intro w1 sh); refine hK _ _ _ _ _ _ (fun _ q => Hp.Sh.drop1 q) (fun _ q => q) sh ?_; clear hK K; clear sh; (try clear F); (try simp only [Act.put, Hp.p1, Hp.p2, Hp.p3])
                    (refine Hp.tks (i := 8) (oi := ⟨some 3, Op.assign (Operand.tmp 93), _, _, _, none⟩) (fun _ q => Hp.Sh.drop1 q) ?_)
                    refine Hp.soft_done (by kernel_rfl) (fun w1 sh => ?_) _; (try clear F); (try have F := Hp.Sh.facts sh); (try simp only [Hp.Facts, Hp.CellsAt, BatP.cellsAt_bt, Nat.reduceAdd, Hp.c1, Hp.c2] at F)
                    go_wp2_with (first
                        | ((with_reducible first | refine Hp.wpl_box sh ?_ ?_ | refine Hp.wpa sh ?_ ?_ | refine Hp.atl_store ?_ ?_); exact rfl; (try (refine Hp.wsB sh ?_)); clear sh; (try clear F); go_simp; (first | intro b w1 sh | intro w1 sh); have F := sh.fxb)
                        | fail)
                    exact bodyPost_ret (Hp.res_ct rfl rfl (sh.load 0 rfl (by kernel_rfl) (BatP.bt_size HPL.out))) rfl (BatP.BodyP.yes HX.out HTL.out rfl HFR.out sh.data sh.below hc1 hcm1)
                · have HX := Lib.hid (HG.out.trans (BatP.readE_left hfull hr0))
                  have n1' : (bstr rest).toList.isEmpty = false := by rw [bstr_toList]; cases rest with
                    | nil => exact absurd rfl hr0
                    | cons => rfl
                  clear hfull hEl hfr htl hr0
                  have F := sh.fxb
                  go_wp2_with (first
                      | ((with_reducible first | refine Hp.wpl_box sh ?_ ?_ | refine Hp.wpa sh ?_ ?_ | refine Hp.atl_store ?_ ?_); exact rfl; (try (refine Hp.wsB sh ?_)); clear sh; (try clear F); go_simp; (first | intro b w1 sh | intro w1 sh); have F := sh.fxb)
                      | fail)
                  refine Hp.region_soft (by kernel_rfl) sh (fun _ q => Hp.Sh.drop1 q) ?_; clear sh; (try clear F)
                  (try simp only [Hp.p2, Hp.p3])
                  (refine Hp.tk (i := 0) (oi := ⟨some 87, Op.load 27 (Operand.tmp 4), _, _, _, none⟩) _ (fun _ q => Hp.Sh.drop1 q) (fun W hW => (Hp.bexec_load 0 hW rfl rfl (by kernel_rfl) (BatP.bt_size HPL.out))) ?_)
                  (refine Hp.tks (i := 1) (oi := ⟨some 88, Op.move (Operand.tmp 10), _, _, _, none⟩) (fun _ q => Hp.Sh.drop1 q) ?_)
                  (refine Hp.tks (i := 2) (oi := ⟨some 89, Op.binOp BinOp.eql 9 (Operand.tmp 88) (Operand.const (Value.string { data := #[] })) 9, _, _, _, none⟩) (fun _ q => Hp.Sh.drop1 q) ?_)
                  (refine Hp.tks (i := 3) (oi := ⟨some 90, Op.move (Operand.tmp 89), _, _, _, none⟩) (fun _ q => Hp.Sh.drop1 q) ?_)
                  (first | (refine Hp.tk (i := 4) (oi := ⟨some 91, Op.load 27 (Operand.tmp 4), _, _, _, some (3, true)⟩) _ (fun _ q => Hp.Sh.drop1 q) (fun W hW => (Hp.bexec_load 0 hW rfl rfl (by kernel_rfl) (BatP.bt_size HPL.out))) ?_) | (refine Hp.skp (i := 4) (oi := ⟨some 91, Op.load 27 (Operand.tmp 4), _, _, _, some (3, true)⟩) (fun _ q => Hp.Sh.drop1 q) ?_))
                  (first | (refine Hp.cl (i := 5) (oi := ⟨some 92, Op.call { callee := Callee.value (Operand.func 41), args := #[Operand.tmp 91], argTypes := #[27] }, _, _, _, some (3, true)⟩) _ _ _ (fun _ q => Hp.Sh.drop1 q) (fun W hW => by go_simp) (fun W hW => (K5.out W hW.data)) ?_) | (refine Hp.skp (i := 5) (oi := ⟨some 92, Op.call { callee := Callee.value (Operand.func 41), args := #[Operand.tmp 91], argTypes := #[27] }, _, _, _, some (3, true)⟩) (fun _ q => Hp.Sh.drop1 q) ?_))
                  (refine Hp.tks (i := 6) (oi := ⟨some 93, Op.pick (Operand.tmp 90) (Operand.tmp 92) (Operand.const (Value.bool false)), _, _, _, none⟩) (fun _ q => Hp.Sh.drop1 q) ?_)
                  refine Hp.soft_make (i := 7) (o := ⟨none, Op.store 27 (Operand.tmp 2) (Operand.tmp 87), _, _, _, none⟩) (by kernel_rfl) rfl (by rfl) (fun w1 sh K hK => ?_); (try clear F); (try have F := Hp.Sh.facts sh); (try simp only [Hp.Facts, Hp.CellsAt, BatP.cellsAt_bt, Nat.reduceAdd, Hp.c1, Hp.c2] at F); (refine Hp.bst_all 0 sh rfl rfl rfl HQ.out (BatP.bt_size' rfl) ?_; clear sh; go_simp; intro w1 sh); refine hK _ _ _ _ _ _ (fun _ q => Hp.Sh.drop1 q) (fun _ q => q) sh ?_; clear hK K; clear sh; (try clear F); (try simp only [Act.put, Hp.p1, Hp.p2, Hp.p3])
                  (refine Hp.tks (i := 8) (oi := ⟨some 3, Op.assign (Operand.tmp 93), _, _, _, none⟩) (fun _ q => Hp.Sh.drop1 q) ?_)
                  refine Hp.soft_done (by kernel_rfl) (fun w1 sh => ?_) _; (try clear F); (try have F := Hp.Sh.facts sh); (try simp only [Hp.Facts, Hp.CellsAt, BatP.cellsAt_bt, Nat.reduceAdd, Hp.c1, Hp.c2] at F)
                  go_wp2_with (first
                      | ((with_reducible first | refine Hp.wpl_box sh ?_ ?_ | refine Hp.wpa sh ?_ ?_ | refine Hp.atl_store ?_ ?_); exact rfl; (try (refine Hp.wsB sh ?_)); clear sh; (try clear F); go_simp; (first | intro b w1 sh | intro w1 sh); have F := sh.fxb)
                      | fail)
                  exact bodyPost_ret (Hp.res_ct rfl rfl (sh.load 0 rfl (by kernel_rfl) (BatP.bt_size HPL.out))) rfl (BatP.BodyP.no HX.out rfl HPL.out sh.below)
        · have d3 : (e2 != 0) = true := by simpa using he2
          have HX := Lib.hid (BatP.readB_no3 hx1 (by rw [hx2]; exact he2))
          clear hx1 hx2 he2
          have F := sh.fxb
          go_wp2_with (first
              | ((with_reducible first | refine Hp.wpl_box sh ?_ ?_ | refine Hp.wpa sh ?_ ?_ | refine Hp.atl_store ?_ ?_); exact rfl; (try (refine Hp.wsB sh ?_)); clear sh; (try clear F); go_simp; (first | intro b w1 sh | intro w1 sh); have F := sh.fxb)
              | fail)
          go_fit (K1.out _)
          rintro e w1 ⟨rfl, hb⟩
          replace sh := sh.call hb; clear hb; (try clear F); have F := sh.fxb
          go_wp2_with (first
              | ((with_reducible refine Hp.at_st 25 ?_ ?_); (rotate_left; exact rfl); (refine Hp.bst_first 0 sh rfl rfl rfl (by kernel_rfl) ?_); clear sh; (try clear F); go_simp; intro w1 sh; (have F := sh.fxb))
              | ((with_reducible first | refine Hp.wpl_box sh ?_ ?_ | refine Hp.wpa sh ?_ ?_ | refine Hp.atl_store ?_ ?_); exact rfl; (try (refine Hp.wsB sh ?_)); clear sh; (try clear F); go_simp; (first | intro b w1 sh | intro w1 sh); have F := sh.fxb)
              | fail)
          go_fit (K2.out _)
          rintro e w1 ⟨rfl, hb⟩
          replace sh := sh.call hb; clear hb; (try clear F); have F := sh.fxb
          go_wp2_with (first
              | ((with_reducible refine Hp.at_ld 27 ?_); (refine Hp.bld_g 0 sh rfl rfl rfl (by kernel_rfl) (BatP.bt_size HPL.out) ?_); go_simp)
              | ((with_reducible refine Hp.at_st 27 ?_ ?_); (rotate_left; exact rfl); (refine Hp.bst_all 1 sh rfl rfl rfl HQ.out (BatP.bt_size' rfl) ?_); clear sh; (try clear F); go_simp; intro w1 sh; (have F := sh.fxb))
              | ((with_reducible first | refine Hp.wpl_box sh ?_ ?_ | refine Hp.wpa sh ?_ ?_ | refine Hp.atl_store ?_ ?_); exact rfl; (try (refine Hp.wsB sh ?_)); clear sh; (try clear F); go_simp; (first | intro b w1 sh | intro w1 sh); have F := sh.fxb)
              | fail)
          exact bodyPost_ret (Hp.res_ct rfl rfl (sh.load 1 rfl (by kernel_rfl) (BatP.bt_size HPL.out))) rfl (BatP.BodyP.no HX.out rfl HPL.out sh.below)
      · have d3 : (e1 != 0) = true := by simpa using he1
        have HX := Lib.hid (BatP.readB_no2 (by rw [hx1]; exact he1))
        clear hx1 he1
        have F := sh.fxb
        go_wp2_with (first
            | ((with_reducible first | refine Hp.wpl_box sh ?_ ?_ | refine Hp.wpa sh ?_ ?_ | refine Hp.atl_store ?_ ?_); exact rfl; (try (refine Hp.wsB sh ?_)); clear sh; (try clear F); go_simp; (first | intro b w1 sh | intro w1 sh); have F := sh.fxb)
            | fail)
        go_fit (K1.out _)
        rintro e w1 ⟨rfl, hb⟩
        replace sh := sh.call hb; clear hb; (try clear F); have F := sh.fxb
        go_wp2_with (first
            | ((with_reducible refine Hp.at_ld 27 ?_); (refine Hp.bld_g 0 sh rfl rfl rfl (by kernel_rfl) (BatP.bt_size HPL.out) ?_); go_simp)
            | ((with_reducible refine Hp.at_st 27 ?_ ?_); (rotate_left; exact rfl); (refine Hp.bst_all 1 sh rfl rfl rfl HQ.out (BatP.bt_size' rfl) ?_); clear sh; (try clear F); go_simp; intro w1 sh; (have F := sh.fxb))
            | ((with_reducible first | refine Hp.wpl_box sh ?_ ?_ | refine Hp.wpa sh ?_ ?_ | refine Hp.atl_store ?_ ?_); exact rfl; (try (refine Hp.wsB sh ?_)); clear sh; (try clear F); go_simp; (first | intro b w1 sh | intro w1 sh); have F := sh.fxb)
            | fail)
        exact bodyPost_ret (Hp.res_ct rfl rfl (sh.load 1 rfl (by kernel_rfl) (BatP.bt_size HPL.out))) rfl (BatP.BodyP.no HX.out rfl HPL.out sh.below)

theorem brbody (s : List UInt8) (hs : s.length ≤ 40000) (w : World) : Calls Tryd.prog 51 #[.string (bstr s)] w fun e w' => BatP.BodyP (BatP.readB s) w e w' := by
  by_cases h : s.length < 32
  · exact brbody_s s h w
  · exact brbody_l s (by omega) hs w
end Go.Proofs.YtfcffglgkblidaaDoor