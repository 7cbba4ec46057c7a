
/-
  The walks of Of, Two, and of the laws of layer 2.
-/
import Derived.Test.YtfcffglgkblidaaDoorDig9
import Derived.Stop.BytesEq
namespace Go.Proofs.YtfcffglgkblidaaDoor
open Go.RowKit
set_option linter.unusedVariables false
set_option linter.unusedSimpArgs false

namespace Hp
theorem exec_load {P : Program} {w0 w : World} {H : List Blk} {D : World → Prop} {ev : Operand → Value} {dst : Option Tmp} {ty T : TypeId} {pos : String} {af : Array Edge} {g : Option (Nat × Bool)} {x : Operand} (i : Nat) {b : Nat} {c : Array Value} {t : TypeId} (sh : Sh w0 w H D)
    (hx : ev x = .pointer (some ⟨b, 0, none⟩)) (hi : H[i]? = some (b, c, t)) (hu : (P.underlying T).map (fun d => d.isRow) = some true) (hs : (P.info? T).map (·.size) = some c.size) :
    (execOp ev ⟨dst, .load T x, ty, pos, af, g⟩).run P w = .ok (.value (.agg c)) w := by
  have h := sh.load (P := P) (T := T) i hi hu hs
  simp [execOp, hx, Instr.loadAt, Instr.sureAddr, h, Result.andThen]
end Hp
namespace DigP
theorem add_ok (s : St) (b : List UInt8) : (add s b).2.1 < 18446744073709551616 ∧ (add s b).2.2.length < 64 := by
  obtain ⟨v, n, r⟩ := s
  exact ⟨Nat.mod_lt _ (by omega), eat_left _ _ _ (by rw [List.length_append]; omega)⟩
theorem of_length (l : List UInt8) : (of l).length = 32 := bytesOf_length _
theorem fin_length (s : St) : (fin s).length = 32 := bytesOf_length _
theorem readD_length (s : List UInt8) : (readD s).length = 32 := by
  unfold readD read
  split
  · exact part_length _ _
  · rfl
end DigP
theorem deq (xs ys : List UInt8) (hx : xs.length = 32) (hy : ys.length = 32) (W : World) : (Op.equalIn 10000 23 (.agg (DigP.bA xs)) (.agg (DigP.bA ys))).run Tryd.prog W = .ok (xs == ys) W :=
  run_equalIn_bytes W 9998 23 5 32 Tryd.underlying23 Tryd.underlying5 (fun _ => by kernel_rfl) xs ys hx hy
theorem deq_same (xs : List UInt8) (hx : xs.length = 32) (W : World) : (Op.equalIn 10000 23 (.agg (DigP.bA xs)) (.agg (DigP.bA xs))).run Tryd.prog W = .ok true W := by rw [deq xs xs hx hx]; simp
theorem dsizes (xs : List UInt8) (hx : xs.length = 32) : (DigP.bA xs).size = (DigP.bA DigP.zero32).size ∧ (Tryd.prog.info? 23).map (·.size) = some (DigP.bA DigP.zero32).size ∧ Hp.ones (DigP.bA xs).toList = true ∧ (Tryd.prog.info? 23).map (·.size) = some (DigP.bA xs).size := by
  refine ⟨by rw [DigP.bA_size, hx, DigP.bA_size]; rfl, by kernel_rfl, DigP.ones_bcells xs, by rw [DigP.bA_size, hx]; kernel_rfl⟩

set_option maxHeartbeats 4000000 in
set_option maxRecDepth 100000 in
theorem dof (l : List UInt8) (hl : l.length ≤ 1048576) (w : World) (hG : Hp.RdV w (some ⟨0, 0, none⟩) (DigP.wds DigP.consts)) : Calls Tryd.prog 21 #[.string (bstr l)] w fun e w' => e = .returned (.agg (DigP.bA (DigP.of (l)))) ∧ Below w.heap.size w w' := by
  have sh := (Hp.Sh.start (RdV_rob hG) : Hp.Sh w w [] (fun W => Hp.RdV W (some ⟨0, 0, none⟩) (DigP.wds DigP.consts)))
  have K0 := Lib.hid (fun W => dstart W)
  have K1 := Lib.hid (fun W q => dadd DigP.start 0 (by omega) [] l (by simp) hl W q)
  have HO := Lib.hid (show DigP.of l = DigP.fin (DigP.add (DigP.start, 0, []) l) from rfl)
  have HK := DigP.add_ok (DigP.start, 0, []) l
  obtain ⟨⟨v1, n1, r1⟩, hx⟩ : ∃ x, DigP.add (DigP.start, 0, []) l = x := ⟨_, rfl⟩
  rw [hx] at K1 HO HK
  have hn1 : n1 < 18446744073709551616 := HK.1
  have hr1 : r1.length < 64 := HK.2
  clear hx HK
  have K2 := Lib.hid (fun W q => dend v1 n1 hn1 r1 (by omega) W q)
  have HZ := Lib.hid (dsizes (DigP.fin (v1, n1, r1)) (DigP.fin_length _))
  generalize DigP.fin (v1, n1, r1) = dg at K2 HO HZ
  generalize (DigP.stV (DigP.start, 0, [])).toArray = s0 at K0 K1
  generalize (DigP.stV (v1, n1, r1)).toArray = s1 at K1 K2
  go_enter Tryd.func21, Tryd.ntmps21
  have F := sh.fx
  have tok_b2 : True := trivial
  go_wp2_with (first
      | ((with_reducible first | refine Hp.wpl_box sh ?_ ?_ | refine Hp.wpa sh ?_ ?_ | refine Hp.atl_store ?_ ?_); exact rfl; (try (refine Hp.wsB sh ?_)); clear sh; (try clear F); go_simp; (first | (have tok := tok_b2; clear tok tok_b2; intro b2 w1 sh) | intro b w1 sh | intro w1 sh); have F := sh.fx)
      | fail)
  go_fit (K0.out _)
  rintro e w1 ⟨rfl, hb⟩
  replace sh := sh.call hb; clear hb; (try clear F); have F := sh.fx
  go_wp2_with (first
      | ((with_reducible first | refine Hp.wpl_box sh ?_ ?_ | refine Hp.wpa sh ?_ ?_ | refine Hp.atl_store ?_ ?_); exact rfl; (try (refine Hp.wsB sh ?_)); clear sh; (try clear F); go_simp; (first | intro b w1 sh | intro w1 sh); have F := sh.fx)
      | fail)
  go_fit (K1.out _ sh.data)
  rintro e w1 ⟨rfl, hb⟩
  replace sh := sh.call hb; clear hb; (try clear F); have F := sh.fx
  go_wp2_with (first
      | ((with_reducible first | refine Hp.wpl_box sh ?_ ?_ | refine Hp.wpa sh ?_ ?_ | refine Hp.atl_store ?_ ?_); exact rfl; (try (refine Hp.wsB sh ?_)); clear sh; (try clear F); go_simp; (first | intro b w1 sh | intro w1 sh); have F := sh.fx)
      | fail)
  go_fit (K2.out _ sh.data)
  rintro e w1 ⟨rfl, hb⟩
  replace sh := sh.call hb; clear hb; (try clear F); have F := sh.fx
  go_wp2_with (first
      | ((with_reducible refine Hp.atl_store ?_ ?_); exact rfl; (refine Hp.wp_store_all 0 sh rfl rfl rfl HZ.out.1 HZ.out.2.1 HZ.out.2.2.1 ?_); clear sh; (try clear F); intro w1 sh; have F := sh.fx)
      | ((with_reducible first | refine Hp.wpl_box sh ?_ ?_ | refine Hp.wpa sh ?_ ?_ | refine Hp.atl_store ?_ ?_); exact rfl; (try (refine Hp.wsB sh ?_)); clear sh; (try clear F); go_simp; (first | intro b w1 sh | intro w1 sh); have F := sh.fx)
      | fail)
  exact bodyPost_ret (Hp.res_c rfl rfl (sh.load 0 rfl (by kernel_rfl) HZ.out.2.2.2)) rfl ⟨DigP.ofV _ _ HO.out.symm, sh.below⟩

set_option maxHeartbeats 4000000 in
set_option maxRecDepth 100000 in
theorem drof (l : List UInt8) (hl : l.length ≤ 1048576) (w : World) : Calls Tryd.prog 29 #[.string (bstr l)] w fun e w' => e = .returned (.agg (DigP.bA (DigP.of (l)))) ∧ Below w.heap.size w w' := by
  have sh := (Hp.Sh.start (fun _ _ => trivial) : Hp.Sh w w [] (fun W => True))
  have K0 := Lib.hid (fun W => drstart W)
  have K1 := Lib.hid (fun W => dradd DigP.start 0 (by omega) [] l (by simp) hl W)
  have HO := Lib.hid (show DigP.of l = DigP.fin (DigP.add (DigP.start, 0, []) l) from rfl)
  have HK := DigP.add_ok (DigP.start, 0, []) l
  obtain ⟨⟨v1, n1, r1⟩, hx⟩ : ∃ x, DigP.add (DigP.start, 0, []) l = x := ⟨_, rfl⟩
  rw [hx] at K1 HO HK
  have hn1 : n1 < 18446744073709551616 := HK.1
  have hr1 : r1.length < 64 := HK.2
  clear hx HK
  have K2 := Lib.hid (fun W => drend v1 n1 hn1 r1 (by omega) W)
  have HZ := Lib.hid (dsizes (DigP.fin (v1, n1, r1)) (DigP.fin_length _))
  generalize DigP.fin (v1, n1, r1) = dg at K2 HO HZ
  generalize (DigP.stV (DigP.start, 0, [])).toArray = s0 at K0 K1
  generalize (DigP.stV (v1, n1, r1)).toArray = s1 at K1 K2
  go_enter Tryd.func29, Tryd.ntmps29
  have F := sh.fx
  have tok_b2 : True := trivial
  go_wp2_with (first
      | ((with_reducible first | refine Hp.wpl_box sh ?_ ?_ | refine Hp.wpa sh ?_ ?_ | refine Hp.atl_store ?_ ?_); exact rfl; (try (refine Hp.wsB sh ?_)); clear sh; (try clear F); go_simp; (first | (have tok := tok_b2; clear tok tok_b2; intro b2 w1 sh) | intro b w1 sh | intro w1 sh); have F := sh.fx)
      | fail)
  go_fit (K0.out _)
  rintro e w1 ⟨rfl, hb⟩
  replace sh := sh.call hb; clear hb; (try clear F); have F := sh.fx
  go_wp2_with (first
      | ((with_reducible first | refine Hp.wpl_box sh ?_ ?_ | refine Hp.wpa sh ?_ ?_ | refine Hp.atl_store ?_ ?_); exact rfl; (try (refine Hp.wsB sh ?_)); clear sh; (try clear F); go_simp; (first | intro b w1 sh | intro w1 sh); have F := sh.fx)
      | fail)
  go_fit (K1.out _)
  rintro e w1 ⟨rfl, hb⟩
  replace sh := sh.call hb; clear hb; (try clear F); have F := sh.fx
  go_wp2_with (first
      | ((with_reducible first | refine Hp.wpl_box sh ?_ ?_ | refine Hp.wpa sh ?_ ?_ | refine Hp.atl_store ?_ ?_); exact rfl; (try (refine Hp.wsB sh ?_)); clear sh; (try clear F); go_simp; (first | intro b w1 sh | intro w1 sh); have F := sh.fx)
      | fail)
  go_fit (K2.out _)
  rintro e w1 ⟨rfl, hb⟩
  replace sh := sh.call hb; clear hb; (try clear F); have F := sh.fx
  go_wp2_with (first
      | ((with_reducible refine Hp.atl_store ?_ ?_); exact rfl; (refine Hp.wp_store_all 0 sh rfl rfl rfl HZ.out.1 HZ.out.2.1 HZ.out.2.2.1 ?_); clear sh; (try clear F); intro w1 sh; have F := sh.fx)
      | ((with_reducible first | refine Hp.wpl_box sh ?_ ?_ | refine Hp.wpa sh ?_ ?_ | refine Hp.atl_store ?_ ?_); exact rfl; (try (refine Hp.wsB sh ?_)); clear sh; (try clear F); go_simp; (first | intro b w1 sh | intro w1 sh); have F := sh.fx)
      | fail)
  exact bodyPost_ret (Hp.res_c rfl rfl (sh.load 0 rfl (by kernel_rfl) HZ.out.2.2.2)) rfl ⟨DigP.ofV _ _ HO.out.symm, sh.below⟩

theorem DigP.read_00 : DigP.readE [48, 48] = 3 := (DigP.read_short (by decide)).2
end Go.Proofs.YtfcffglgkblidaaDoor