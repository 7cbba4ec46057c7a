
/-
  The walk of read: its cases.
-/
import Derived.Test.YtfcffglgkblidaaDoorBat5
namespace Go.Proofs.YtfcffglgkblidaaDoor
open Go.RowKit
set_option linter.unusedVariables false
set_option linter.unusedSimpArgs false
theorem BatP.evB_of {x : EvP.Ev} (h : EvP.isB x = true) (h1 : 0 ≤ x.1) (h2 : x.1 ≤ 18446744073709551615) : EvP.EvB x := by
  obtain ⟨q, t, p, k, a, b⟩ := x
  have := EvP.isB_iff.1 h
  unfold EvP.EvB
  dsimp only at h1 h2 ⊢
  refine ⟨⟨h1, h2⟩, ?_, ?_, ?_, ?_, ?_⟩ <;> omega
theorem BatP.takeL_le {s r : List UInt8} {n : Nat} {e : Int} (h : WireP.takeL s = (n, r, e)) : n < 18446744073709551616 ∧ r.length ≤ s.length := by
  have := WireP.takeL_facts s
  rw [h] at this
  exact this
theorem BatP.evs_b {k : Nat} {s : List UInt8} {l : List EvP.Ev} {r : List UInt8} (h : BatP.evsT k s = some (l, r)) : (∀ x ∈ l, EvP.EvB x) ∧ l.length = k ∧ r.length ≤ s.length := by
  obtain ⟨h1, h2, h3⟩ := BatP.evsT_back k s l r h
  refine ⟨fun x hx => BatP.evB_of (h3 x hx).1 (h3 x hx).2.1 (h3 x hx).2.2, h2, ?_⟩
  rw [h1, List.length_append]; omega

set_option maxHeartbeats 1000000 in
set_option maxRecDepth 100000 in
theorem bread_2 (s : List UInt8) (hs : s.length ≤ 40000) (h32 : 32 ≤ s.length) {n1 : Nat} {r1 : List UInt8} {e1 : Int} (hx1 : WireP.takeL (s.drop 32) = (n1, r1, e1)) (he1 : e1 ≠ 0) (w : World) : Calls Tryd.prog 49 #[.string (bstr s)] w fun e w' => e = .returned (.tuple #[.agg (BatP.btA 0 (.slice none 0 0) BatP.zeros), .int .i64 3]) ∧ Below w.heap.size w w' := by
  have sh := (Hp.Sh.start (fun _ _ => trivial) : Hp.Sh w w [] (fun _ => True))
  have hmf : ∀ (fn : Fn) (first cap : Array Value) (w : World), (Instr.makeFunc fn first cap).run Tryd.prog w = .ok (.func fn first cap) w := fun _ _ _ _ => rfl
  have hl0 : (s.drop 32).length ≤ 40000 := by rw [List.length_drop]; omega
  have hl32 : (s.take 32).length = 32 := by rw [List.length_take]; omega
  have HQ := Lib.hid (show (s.take 32).length = BatP.zeros.length from hl32)
  have HPL := Lib.hid hl32
  have K1 := Lib.hid (fun br (H : List Hp.Blk) W (sh : Hp.Sh w W ((br, #[.string (bstr s)], 93) :: H) (fun _ => True)) => bdigest_yes br s h32 sh)
  have K2 := Lib.hid (fun br (H : List Hp.Blk) W (sh : Hp.Sh w W ((br, #[.string (bstr (s.drop 32))], 93) :: H) (fun _ => True)) => bnumber_no br (s.drop 32) hl0 (by rw [hx1]; exact he1) sh)
  clear hs h32 hx1 he1 hl0 hl32
  go_enter_defers Tryd.func49, Tryd.ntmps49
  have F : True := trivial
  have tok_bb : True := trivial
  have tok_be : True := trivial
  have tok_br : True := trivial
  go_wp2_with (first
      | ((with_reducible first | refine Hp.wpl_box sh ?_ ?_ | refine Hp.wpa sh ?_ ?_ | refine Hp.atl_store ?_ ?_); exact rfl; (try (refine Hp.wsB sh ?_)); clear sh; (try clear F); go_simp; (first | (have tok := tok_bb; clear tok tok_bb; intro bb w1 sh) | (have tok := tok_be; clear tok tok_be; intro be w1 sh) | (have tok := tok_br; clear tok tok_br; intro br w1 sh) | intro b w1 sh | intro w1 sh); have F := sh.fxb)
      | fail)
  go_fit (K1.out br _ _ sh)
  clear sh; (try clear F)
  rintro e w1 ⟨rfl, sh⟩
  have F := sh.fxb
  go_wp2_with (first
      | ((with_reducible refine Hp.at_st 23 ?_ ?_); (rotate_left; exact rfl); (refine Hp.bst_prev 2 sh rfl rfl rfl HQ.out (by kernel_rfl) ?_); clear sh; (try clear F); go_simp; intro w1 sh; (have F := sh.fxb))
      | ((with_reducible first | refine Hp.wpl_box sh ?_ ?_ | refine Hp.wpa sh ?_ ?_ | refine Hp.atl_store ?_ ?_); exact rfl; (try (refine Hp.wsB sh ?_)); clear sh; (try clear F); go_simp; (first | intro b w1 sh | intro w1 sh); have F := sh.fxb)
      | fail)
  go_fit (K2.out br _ _ sh)
  clear sh
  rintro e w1 ⟨rfl, sh⟩
  go_wp2_with (first
      | ((with_reducible first | refine Hp.wpl_box sh ?_ ?_ | refine Hp.wpa sh ?_ ?_ | refine Hp.atl_store ?_ ?_); exact rfl; (try (refine Hp.wsB sh ?_)); clear sh; (try clear F); go_simp; (first | intro b w1 sh | intro w1 sh); have F := sh.fxb)
      | fail)
  refine leaves_cons (f := 67) (args := #[.pointer (some ⟨bb, 0, none⟩), .pointer (some ⟨be, 0, none⟩)]) (by simp) (by simp [go_sem]) ?_
  refine (bcatch_pan bb be _ _ _ _ HPL.out _ _ [] sh.drop1).mono ?_
  clear sh
  rintro e u' w'' ⟨rfl, rfl, sh⟩
  exact ⟨_, Hp.res_cc rfl rfl (sh.load 1 rfl (by kernel_rfl) (BatP.bt_size rfl)) rfl (Hp.Sh.load1 sh 0 rfl Tryd.underlying28), rfl, sh.below⟩

set_option maxHeartbeats 1000000 in
set_option maxRecDepth 100000 in
theorem bread_3 (s : List UInt8) (hs : s.length ≤ 40000) (h32 : 32 ≤ s.length) {n1 : Nat} {r1 : List UInt8} (hx1 : WireP.takeL (s.drop 32) = (n1, r1, 0)) {n2 : Nat} {r2 : List UInt8} {e2 : Int} (hx2 : WireP.takeL r1 = (n2, r2, e2)) (he2 : e2 ≠ 0) (w : World) : Calls Tryd.prog 49 #[.string (bstr s)] w fun e w' => e = .returned (.tuple #[.agg (BatP.btA 0 (.slice none 0 0) BatP.zeros), .int .i64 3]) ∧ Below w.heap.size w w' := by
  have sh := (Hp.Sh.start (fun _ _ => trivial) : Hp.Sh w w [] (fun _ => True))
  have hmf : ∀ (fn : Fn) (first cap : Array Value) (w : World), (Instr.makeFunc fn first cap).run Tryd.prog w = .ok (.func fn first cap) w := fun _ _ _ _ => rfl
  have hl0 : (s.drop 32).length ≤ 40000 := by rw [List.length_drop]; omega
  have hl32 : (s.take 32).length = 32 := by rw [List.length_take]; omega
  have HQ := Lib.hid (show (s.take 32).length = BatP.zeros.length from hl32)
  have HPL := Lib.hid hl32
  have hl1 : r1.length ≤ 40000 := by have := (BatP.takeL_le hx1).2; omega
  have K1 := Lib.hid (fun br (H : List Hp.Blk) W (sh : Hp.Sh w W ((br, #[.string (bstr s)], 93) :: H) (fun _ => True)) => bdigest_yes br s h32 sh)
  have K2 := Lib.hid (fun br (H : List Hp.Blk) W (sh : Hp.Sh w W ((br, #[.string (bstr (s.drop 32))], 93) :: H) (fun _ => True)) => bnumber_yes br (s.drop 32) hl0 (by rw [hx1]) sh)
  rw [hx1] at K2
  dsimp only at K2
  have K3 := Lib.hid (fun br (H : List Hp.Blk) W (sh : Hp.Sh w W ((br, #[.string (bstr r1)], 93) :: H) (fun _ => True)) => bnumber_no br r1 hl1 (by rw [hx2]; exact he2) sh)
  clear hs h32 hx1 hx2 he2 hl0 hl32 hl1
  go_enter_defers Tryd.func49, Tryd.ntmps49
  have F : True := trivial
  have tok_bb : True := trivial
  have tok_be : True := trivial
  have tok_br : True := trivial
  go_wp2_with (first
      | ((with_reducible first | refine Hp.wpl_box sh ?_ ?_ | refine Hp.wpa sh ?_ ?_ | refine Hp.atl_store ?_ ?_); exact rfl; (try (refine Hp.wsB sh ?_)); clear sh; (try clear F); go_simp; (first | (have tok := tok_bb; clear tok tok_bb; intro bb w1 sh) | (have tok := tok_be; clear tok tok_be; intro be w1 sh) | (have tok := tok_br; clear tok tok_br; intro br w1 sh) | intro b w1 sh | intro w1 sh); have F := sh.fxb)
      | fail)
  go_fit (K1.out br _ _ sh)
  clear sh; (try clear F)
  rintro e w1 ⟨rfl, sh⟩
  have F := sh.fxb
  go_wp2_with (first
      | ((with_reducible refine Hp.at_st 23 ?_ ?_); (rotate_left; exact rfl); (refine Hp.bst_prev 2 sh rfl rfl rfl HQ.out (by kernel_rfl) ?_); clear sh; (try clear F); go_simp; intro w1 sh; (have F := sh.fxb))
      | ((with_reducible first | refine Hp.wpl_box sh ?_ ?_ | refine Hp.wpa sh ?_ ?_ | refine Hp.atl_store ?_ ?_); exact rfl; (try (refine Hp.wsB sh ?_)); clear sh; (try clear F); go_simp; (first | intro b w1 sh | intro w1 sh); have F := sh.fxb)
      | fail)
  go_fit (K2.out br _ _ sh)
  clear sh; (try clear F)
  rintro e w1 ⟨rfl, sh⟩
  have F := sh.fxb
  go_wp2_with (first
      | ((with_reducible refine Hp.at_st 25 ?_ ?_); (rotate_left; exact rfl); (refine Hp.bst_first 2 sh rfl rfl rfl (by kernel_rfl) ?_); clear sh; (try clear F); go_simp; intro w1 sh; (have F := sh.fxb))
      | ((with_reducible first | refine Hp.wpl_box sh ?_ ?_ | refine Hp.wpa sh ?_ ?_ | refine Hp.atl_store ?_ ?_); exact rfl; (try (refine Hp.wsB sh ?_)); clear sh; (try clear F); go_simp; (first | intro b w1 sh | intro w1 sh); have F := sh.fxb)
      | fail)
  go_fit (K3.out br _ _ sh)
  clear sh
  rintro e w1 ⟨rfl, sh⟩
  go_wp2_with (first
      | ((with_reducible first | refine Hp.wpl_box sh ?_ ?_ | refine Hp.wpa sh ?_ ?_ | refine Hp.atl_store ?_ ?_); exact rfl; (try (refine Hp.wsB sh ?_)); clear sh; (try clear F); go_simp; (first | intro b w1 sh | intro w1 sh); have F := sh.fxb)
      | fail)
  refine leaves_cons (f := 67) (args := #[.pointer (some ⟨bb, 0, none⟩), .pointer (some ⟨be, 0, none⟩)]) (by simp) (by simp [go_sem]) ?_
  refine (bcatch_pan bb be _ _ _ _ HPL.out _ _ [] sh.drop1).mono ?_
  clear sh
  rintro e u' w'' ⟨rfl, rfl, sh⟩
  exact ⟨_, Hp.res_cc rfl rfl (sh.load 1 rfl (by kernel_rfl) (BatP.bt_size rfl)) rfl (Hp.Sh.load1 sh 0 rfl Tryd.underlying28), rfl, sh.below⟩

set_option maxHeartbeats 1000000 in
set_option maxRecDepth 100000 in
theorem bread_4 (s : List UInt8) (hs : s.length ≤ 40000) (h32 : 32 ≤ s.length) {n1 : Nat} {r1 : List UInt8} (hx1 : WireP.takeL (s.drop 32) = (n1, r1, 0)) {n2 : Nat} {r2 : List UInt8} (hx2 : WireP.takeL r1 = (n2, r2, 0)) (hm : n2 < 1 ∨ 256 < n2) (w : World) : Calls Tryd.prog 49 #[.string (bstr s)] w fun e w' => e = .returned (.tuple #[.agg (BatP.btA 0 (.slice none 0 0) BatP.zeros), .int .i64 3]) ∧ Below w.heap.size w w' := by
  have sh := (Hp.Sh.start (fun _ _ => trivial) : Hp.Sh w w [] (fun _ => True))
  have hmf : ∀ (fn : Fn) (first cap : Array Value) (w : World), (Instr.makeFunc fn first cap).run Tryd.prog w = .ok (.func fn first cap) w := fun _ _ _ _ => rfl
  have hl0 : (s.drop 32).length ≤ 40000 := by rw [List.length_drop]; omega
  have hl32 : (s.take 32).length = 32 := by rw [List.length_take]; omega
  have HQ := Lib.hid (show (s.take 32).length = BatP.zeros.length from hl32)
  have HPL := Lib.hid hl32
  have hl1 : r1.length ≤ 40000 := by have := (BatP.takeL_le hx1).2; omega
  have K1 := Lib.hid (fun br (H : List Hp.Blk) W (sh : Hp.Sh w W ((br, #[.string (bstr s)], 93) :: H) (fun _ => True)) => bdigest_yes br s h32 sh)
  have K2 := Lib.hid (fun br (H : List Hp.Blk) W (sh : Hp.Sh w W ((br, #[.string (bstr (s.drop 32))], 93) :: H) (fun _ => True)) => bnumber_yes br (s.drop 32) hl0 (by rw [hx1]) sh)
  rw [hx1] at K2
  dsimp only at K2
  have K3 := Lib.hid (fun br (H : List Hp.Blk) W (sh : Hp.Sh w W ((br, #[.string (bstr r1)], 93) :: H) (fun _ => True)) => bnumber_yes br r1 hl1 (by rw [hx2]) sh)
  rw [hx2] at K3
  dsimp only at K3
  have K4 := Lib.hid (fun fv W => bgather_bad n2 hm fv W)
  clear hs h32 hx1 hx2 hm hl0 hl32 hl1
  go_enter_defers Tryd.func49, Tryd.ntmps49
  have F : True := trivial
  have tok_bb : True := trivial
  have tok_be : True := trivial
  have tok_br : True := trivial
  go_wp2_with (first
      | ((with_reducible first | refine Hp.wpl_box sh ?_ ?_ | refine Hp.wpa sh ?_ ?_ | refine Hp.atl_store ?_ ?_); exact rfl; (try (refine Hp.wsB sh ?_)); clear sh; (try clear F); go_simp; (first | (have tok := tok_bb; clear tok tok_bb; intro bb w1 sh) | (have tok := tok_be; clear tok tok_be; intro be w1 sh) | (have tok := tok_br; clear tok tok_br; intro br w1 sh) | intro b w1 sh | intro w1 sh); have F := sh.fxb)
      | fail)
  go_fit (K1.out br _ _ sh)
  clear sh; (try clear F)
  rintro e w1 ⟨rfl, sh⟩
  have F := sh.fxb
  go_wp2_with (first
      | ((with_reducible refine Hp.at_st 23 ?_ ?_); (rotate_left; exact rfl); (refine Hp.bst_prev 2 sh rfl rfl rfl HQ.out (by kernel_rfl) ?_); clear sh; (try clear F); go_simp; intro w1 sh; (have F := sh.fxb))
      | ((with_reducible first | refine Hp.wpl_box sh ?_ ?_ | refine Hp.wpa sh ?_ ?_ | refine Hp.atl_store ?_ ?_); exact rfl; (try (refine Hp.wsB sh ?_)); clear sh; (try clear F); go_simp; (first | intro b w1 sh | intro w1 sh); have F := sh.fxb)
      | fail)
  go_fit (K2.out br _ _ sh)
  clear sh; (try clear F)
  rintro e w1 ⟨rfl, sh⟩
  have F := sh.fxb
  go_wp2_with (first
      | ((with_reducible refine Hp.at_st 25 ?_ ?_); (rotate_left; exact rfl); (refine Hp.bst_first 2 sh rfl rfl rfl (by kernel_rfl) ?_); clear sh; (try clear F); go_simp; intro w1 sh; (have F := sh.fxb))
      | ((with_reducible first | refine Hp.wpl_box sh ?_ ?_ | refine Hp.wpa sh ?_ ?_ | refine Hp.atl_store ?_ ?_); exact rfl; (try (refine Hp.wsB sh ?_)); clear sh; (try clear F); go_simp; (first | intro b w1 sh | intro w1 sh); have F := sh.fxb)
      | fail)
  go_fit (K3.out br _ _ sh)
  clear sh; (try clear F)
  rintro e w1 ⟨rfl, sh⟩
  have F := sh.fxb
  go_wp2_with (first
      | ((with_reducible first | refine Hp.wpl_box sh ?_ ?_ | refine Hp.wpa sh ?_ ?_ | refine Hp.atl_store ?_ ?_); exact rfl; (try (refine Hp.wsB sh ?_)); clear sh; (try clear F); go_simp; (first | intro b w1 sh | intro w1 sh); have F := sh.fxb)
      | fail)
  go_fit (K4.out _ _)
  rintro e w1 ⟨rfl, hb9⟩
  replace sh := sh.call hb9; clear hb9
  go_wp2_with (first
      | ((with_reducible first | refine Hp.wpl_box sh ?_ ?_ | refine Hp.wpa sh ?_ ?_ | refine Hp.atl_store ?_ ?_); exact rfl; (try (refine Hp.wsB sh ?_)); clear sh; (try clear F); go_simp; (first | intro b w1 sh | intro w1 sh); have F := sh.fxb)
      | fail)
  refine leaves_cons (f := 67) (args := #[.pointer (some ⟨bb, 0, none⟩), .pointer (some ⟨be, 0, none⟩)]) (by simp) (by simp [go_sem]) ?_
  refine (bcatch_pan bb be _ _ _ _ HPL.out _ _ [] sh.drop1).mono ?_
  clear sh
  rintro e u' w'' ⟨rfl, rfl, sh⟩
  exact ⟨_, Hp.res_cc rfl rfl (sh.load 1 rfl (by kernel_rfl) (BatP.bt_size rfl)) rfl (Hp.Sh.load1 sh 0 rfl Tryd.underlying28), rfl, sh.below⟩

set_option maxHeartbeats 1000000 in
set_option maxRecDepth 100000 in
theorem bread_5 (s : List UInt8) (hs : s.length ≤ 40000) (h32 : 32 ≤ s.length) {n1 : Nat} {r1 : List UInt8} (hx1 : WireP.takeL (s.drop 32) = (n1, r1, 0)) {n2 : Nat} {r2 : List UInt8} (hx2 : WireP.takeL r1 = (n2, r2, 0)) (hm1 : 1 ≤ n2) (hm2 : n2 ≤ 256) (hx3 : BatP.evsT n2 r2 = none) (w : World) : Calls Tryd.prog 49 #[.string (bstr s)] w fun e w' => e = .returned (.tuple #[.agg (BatP.btA 0 (.slice none 0 0) BatP.zeros), .int .i64 3]) ∧ Below w.heap.size w w' := by
  have sh := (Hp.Sh.start (fun _ _ => trivial) : Hp.Sh w w [] (fun _ => True))
  have hmf : ∀ (fn : Fn) (first cap : Array Value) (w : World), (Instr.makeFunc fn first cap).run Tryd.prog w = .ok (.func fn first cap) w := fun _ _ _ _ => rfl
  have hl0 : (s.drop 32).length ≤ 40000 := by rw [List.length_drop]; omega
  have hl32 : (s.take 32).length = 32 := by rw [List.length_take]; omega
  have HQ := Lib.hid (show (s.take 32).length = BatP.zeros.length from hl32)
  have HPL := Lib.hid hl32
  have hl1 : r1.length ≤ 40000 := by have := (BatP.takeL_le hx1).2; omega
  have hl2 : r2.length ≤ 40000 := by have := (BatP.takeL_le hx2).2; omega
  have K1 := Lib.hid (fun br (H : List Hp.Blk) W (sh : Hp.Sh w W ((br, #[.string (bstr s)], 93) :: H) (fun _ => True)) => bdigest_yes br s h32 sh)
  have K2 := Lib.hid (fun br (H : List Hp.Blk) W (sh : Hp.Sh w W ((br, #[.string (bstr (s.drop 32))], 93) :: H) (fun _ => True)) => bnumber_yes br (s.drop 32) hl0 (by rw [hx1]) sh)
  rw [hx1] at K2
  dsimp only at K2
  have K3 := Lib.hid (fun br (H : List Hp.Blk) W (sh : Hp.Sh w W ((br, #[.string (bstr r1)], 93) :: H) (fun _ => True)) => bnumber_yes br r1 hl1 (by rw [hx2]) sh)
  rw [hx2] at K3
  dsimp only at K3
  have K4 := Lib.hid (fun br (H : List Hp.Blk) W (sh : Hp.Sh w W ((br, #[.string (bstr r2)], 93) :: H) (fun _ => True)) => bgather n2 hm1 hm2 br r2 hl2 sh)
  rw [hx3] at K4
  dsimp only [BatP.GatP] at K4
  clear hs h32 hx1 hx2 hx3 hl0 hl32 hl1 hl2 hm1 hm2
  go_enter_defers Tryd.func49, Tryd.ntmps49
  have F : True := trivial
  have tok_bb : True := trivial
  have tok_be : True := trivial
  have tok_br : True := trivial
  go_wp2_with (first
      | ((with_reducible first | refine Hp.wpl_box sh ?_ ?_ | refine Hp.wpa sh ?_ ?_ | refine Hp.atl_store ?_ ?_); exact rfl; (try (refine Hp.wsB sh ?_)); clear sh; (try clear F); go_simp; (first | (have tok := tok_bb; clear tok tok_bb; intro bb w1 sh) | (have tok := tok_be; clear tok tok_be; intro be w1 sh) | (have tok := tok_br; clear tok tok_br; intro br w1 sh) | intro b w1 sh | intro w1 sh); have F := sh.fxb)
      | fail)
  go_fit (K1.out br _ _ sh)
  clear sh; (try clear F)
  rintro e w1 ⟨rfl, sh⟩
  have F := sh.fxb
  go_wp2_with (first
      | ((with_reducible refine Hp.at_st 23 ?_ ?_); (rotate_left; exact rfl); (refine Hp.bst_prev 2 sh rfl rfl rfl HQ.out (by kernel_rfl) ?_); clear sh; (try clear F); go_simp; intro w1 sh; (have F := sh.fxb))
      | ((with_reducible first | refine Hp.wpl_box sh ?_ ?_ | refine Hp.wpa sh ?_ ?_ | refine Hp.atl_store ?_ ?_); exact rfl; (try (refine Hp.wsB sh ?_)); clear sh; (try clear F); go_simp; (first | intro b w1 sh | intro w1 sh); have F := sh.fxb)
      | fail)
  go_fit (K2.out br _ _ sh)
  clear sh; (try clear F)
  rintro e w1 ⟨rfl, sh⟩
  have F := sh.fxb
  go_wp2_with (first
      | ((with_reducible refine Hp.at_st 25 ?_ ?_); (rotate_left; exact rfl); (refine Hp.bst_first 2 sh rfl rfl rfl (by kernel_rfl) ?_); clear sh; (try clear F); go_simp; intro w1 sh; (have F := sh.fxb))
      | ((with_reducible first | refine Hp.wpl_box sh ?_ ?_ | refine Hp.wpa sh ?_ ?_ | refine Hp.atl_store ?_ ?_); exact rfl; (try (refine Hp.wsB sh ?_)); clear sh; (try clear F); go_simp; (first | intro b w1 sh | intro w1 sh); have F := sh.fxb)
      | fail)
  go_fit (K3.out br _ _ sh)
  clear sh; (try clear F)
  rintro e w1 ⟨rfl, sh⟩
  have F := sh.fxb
  go_wp2_with (first
      | ((with_reducible first | refine Hp.wpl_box sh ?_ ?_ | refine Hp.wpa sh ?_ ?_ | refine Hp.atl_store ?_ ?_); exact rfl; (try (refine Hp.wsB sh ?_)); clear sh; (try clear F); go_simp; (first | intro b w1 sh | intro w1 sh); have F := sh.fxb)
      | fail)
  go_fit (K4.out br _ _ sh)
  clear sh
  rintro e w1 ⟨rfl, t, sh⟩
  go_wp2_with (first
      | ((with_reducible first | refine Hp.wpl_box sh ?_ ?_ | refine Hp.wpa sh ?_ ?_ | refine Hp.atl_store ?_ ?_); exact rfl; (try (refine Hp.wsB sh ?_)); clear sh; (try clear F); go_simp; (first | intro b w1 sh | intro w1 sh); have F := sh.fxb)
      | fail)
  refine leaves_cons (f := 67) (args := #[.pointer (some ⟨bb, 0, none⟩), .pointer (some ⟨be, 0, none⟩)]) (by simp) (by simp [go_sem]) ?_
  refine (bcatch_pan bb be _ _ _ _ HPL.out _ _ [] sh.drop1).mono ?_
  clear sh
  rintro e u' w'' ⟨rfl, rfl, sh⟩
  exact ⟨_, Hp.res_cc rfl rfl (sh.load 1 rfl (by kernel_rfl) (BatP.bt_size rfl)) rfl (Hp.Sh.load1 sh 0 rfl Tryd.underlying28), rfl, sh.below⟩

set_option maxHeartbeats 1000000 in
set_option maxRecDepth 100000 in
theorem bread_6 (s : List UInt8) (hs : s.length ≤ 40000) (h32 : 32 ≤ s.length) {n1 : Nat} {r1 : List UInt8} (hx1 : WireP.takeL (s.drop 32) = (n1, r1, 0)) {n2 : Nat} {r2 : List UInt8} (hx2 : WireP.takeL r1 = (n2, r2, 0)) (hm1 : 1 ≤ n2) (hm2 : n2 ≤ 256) {l : List EvP.Ev} {r : List UInt8} (hx3 : BatP.evsT n2 r2 = some (l, r)) (hr : r ≠ []) (w : World) : Calls Tryd.prog 49 #[.string (bstr s)] w fun e w' => e = .returned (.tuple #[.agg (BatP.btA 0 (.slice none 0 0) BatP.zeros), .int .i64 3]) ∧ Below w.heap.size w w' := by
  have sh := (Hp.Sh.start (fun _ _ => trivial) : Hp.Sh w w [] (fun _ => True))
  have hmf : ∀ (fn : Fn) (first cap : Array Value) (w : World), (Instr.makeFunc fn first cap).run Tryd.prog w = .ok (.func fn first cap) w := fun _ _ _ _ => rfl
  have hl0 : (s.drop 32).length ≤ 40000 := by rw [List.length_drop]; omega
  have hl32 : (s.take 32).length = 32 := by rw [List.length_take]; omega
  have HQ := Lib.hid (show (s.take 32).length = BatP.zeros.length from hl32)
  have HPL := Lib.hid hl32
  have hl1 : r1.length ≤ 40000 := by have := (BatP.takeL_le hx1).2; omega
  have hl2 : r2.length ≤ 40000 := by have := (BatP.takeL_le hx2).2; omega
  have K1 := Lib.hid (fun br (H : List Hp.Blk) W (sh : Hp.Sh w W ((br, #[.string (bstr s)], 93) :: H) (fun _ => True)) => bdigest_yes br s h32 sh)
  have K2 := Lib.hid (fun br (H : List Hp.Blk) W (sh : Hp.Sh w W ((br, #[.string (bstr (s.drop 32))], 93) :: H) (fun _ => True)) => bnumber_yes br (s.drop 32) hl0 (by rw [hx1]) sh)
  rw [hx1] at K2
  dsimp only at K2
  have K3 := Lib.hid (fun br (H : List Hp.Blk) W (sh : Hp.Sh w W ((br, #[.string (bstr r1)], 93) :: H) (fun _ => True)) => bnumber_yes br r1 hl1 (by rw [hx2]) sh)
  rw [hx2] at K3
  dsimp only at K3
  have K4 := Lib.hid (fun br (H : List Hp.Blk) W (sh : Hp.Sh w W ((br, #[.string (bstr r2)], 93) :: H) (fun _ => True)) => bgather n2 hm1 hm2 br r2 hl2 sh)
  rw [hx3] at K4
  dsimp only [BatP.GatP] at K4
  have K9 := Lib.hid (fun W => bmust_no W)
  have n1' : (bstr r).toList.isEmpty = false := by rw [bstr_toList]; cases r with
    | nil => exact absurd rfl hr
    | cons => rfl
  clear hs h32 hx1 hx2 hx3 hl0 hl32 hl1 hl2 hm1 hm2 hr
  go_enter_defers Tryd.func49, Tryd.ntmps49
  have F : True := trivial
  have tok_bb : True := trivial
  have tok_be : True := trivial
  have tok_br : True := trivial
  go_wp2_with (first
      | ((with_reducible first | refine Hp.wpl_box sh ?_ ?_ | refine Hp.wpa sh ?_ ?_ | refine Hp.atl_store ?_ ?_); exact rfl; (try (refine Hp.wsB sh ?_)); clear sh; (try clear F); go_simp; (first | (have tok := tok_bb; clear tok tok_bb; intro bb w1 sh) | (have tok := tok_be; clear tok tok_be; intro be w1 sh) | (have tok := tok_br; clear tok tok_br; intro br w1 sh) | intro b w1 sh | intro w1 sh); have F := sh.fxb)
      | fail)
  go_fit (K1.out br _ _ sh)
  clear sh; (try clear F)
  rintro e w1 ⟨rfl, sh⟩
  have F := sh.fxb
  go_wp2_with (first
      | ((with_reducible refine Hp.at_st 23 ?_ ?_); (rotate_left; exact rfl); (refine Hp.bst_prev 2 sh rfl rfl rfl HQ.out (by kernel_rfl) ?_); clear sh; (try clear F); go_simp; intro w1 sh; (have F := sh.fxb))
      | ((with_reducible first | refine Hp.wpl_box sh ?_ ?_ | refine Hp.wpa sh ?_ ?_ | refine Hp.atl_store ?_ ?_); exact rfl; (try (refine Hp.wsB sh ?_)); clear sh; (try clear F); go_simp; (first | intro b w1 sh | intro w1 sh); have F := sh.fxb)
      | fail)
  go_fit (K2.out br _ _ sh)
  clear sh; (try clear F)
  rintro e w1 ⟨rfl, sh⟩
  have F := sh.fxb
  go_wp2_with (first
      | ((with_reducible refine Hp.at_st 25 ?_ ?_); (rotate_left; exact rfl); (refine Hp.bst_first 2 sh rfl rfl rfl (by kernel_rfl) ?_); clear sh; (try clear F); go_simp; intro w1 sh; (have F := sh.fxb))
      | ((with_reducible first | refine Hp.wpl_box sh ?_ ?_ | refine Hp.wpa sh ?_ ?_ | refine Hp.atl_store ?_ ?_); exact rfl; (try (refine Hp.wsB sh ?_)); clear sh; (try clear F); go_simp; (first | intro b w1 sh | intro w1 sh); have F := sh.fxb)
      | fail)
  go_fit (K3.out br _ _ sh)
  clear sh; (try clear F)
  rintro e w1 ⟨rfl, sh⟩
  have F := sh.fxb
  go_wp2_with (first
      | ((with_reducible first | refine Hp.wpl_box sh ?_ ?_ | refine Hp.wpa sh ?_ ?_ | refine Hp.atl_store ?_ ?_); exact rfl; (try (refine Hp.wsB sh ?_)); clear sh; (try clear F); go_simp; (first | intro b w1 sh | intro w1 sh); have F := sh.fxb)
      | fail)
  go_fit (K4.out br _ _ sh)
  clear sh
  rintro e w1 ⟨s9, c9, rfl, sh, hfr, hc9, hcm9⟩
  have HFR := Lib.hid hfr
  clear hfr
  (have F := sh.fxb)
  go_wp2_with (first
      | ((with_reducible refine Hp.at_st 24 ?_ ?_); (rotate_left; exact rfl); (refine Hp.bst_evs 2 sh rfl rfl rfl (by kernel_rfl) ?_); clear sh; (try clear F); go_simp; intro w1 sh; (have F := sh.fxb))
      | ((with_reducible first | refine Hp.wpl_box sh ?_ ?_ | refine Hp.wpa sh ?_ ?_ | refine Hp.atl_store ?_ ?_); exact rfl; (try (refine Hp.wsB sh ?_)); clear sh; (try clear F); go_simp; (first | intro b w1 sh | intro w1 sh); have F := sh.fxb)
      | fail)
  go_fit (K9.out _)
  rintro e w1 ⟨rfl, hb⟩
  replace sh := sh.call hb; clear hb; (try clear F); have F := sh.fxb
  go_wp2_with (first
      | ((with_reducible first | refine Hp.wpl_box sh ?_ ?_ | refine Hp.wpa sh ?_ ?_ | refine Hp.atl_store ?_ ?_); exact rfl; (try (refine Hp.wsB sh ?_)); clear sh; (try clear F); go_simp; (first | intro b w1 sh | intro w1 sh); have F := sh.fxb)
      | fail)
  refine leaves_cons (f := 67) (args := #[.pointer (some ⟨bb, 0, none⟩), .pointer (some ⟨be, 0, none⟩)]) (by simp) (by simp [go_sem]) ?_
  refine (bcatch_pan bb be _ _ _ _ HPL.out _ _ [] sh.drop1).mono ?_
  clear sh
  rintro e u' w'' ⟨rfl, rfl, sh⟩
  exact ⟨_, Hp.res_cc rfl rfl (sh.load 1 rfl (by kernel_rfl) (BatP.bt_size rfl)) rfl (Hp.Sh.load1 sh 0 rfl Tryd.underlying28), rfl, sh.below⟩

set_option maxHeartbeats 1000000 in
set_option maxRecDepth 100000 in
theorem bread_7 (s : List UInt8) (hs : s.length ≤ 40000) (h32 : 32 ≤ s.length) {n1 : Nat} {r1 : List UInt8} (hx1 : WireP.takeL (s.drop 32) = (n1, r1, 0)) {n2 : Nat} {r2 : List UInt8} (hx2 : WireP.takeL r1 = (n2, r2, 0)) (hm1 : 1 ≤ n2) (hm2 : n2 ≤ 256) {l : List EvP.Ev} (hx3 : BatP.evsT n2 r2 = some (l, [])) (hb : BatP.isB ((n1 : Int), l, s.take 32) = false) (w : World) : Calls Tryd.prog 49 #[.string (bstr s)] w fun e w' => e = .returned (.tuple #[.agg (BatP.btA 0 (.slice none 0 0) BatP.zeros), .int .i64 3]) ∧ Below w.heap.size w w' := by
  have sh := (Hp.Sh.start (fun _ _ => trivial) : Hp.Sh w w [] (fun _ => True))
  have hmf : ∀ (fn : Fn) (first cap : Array Value) (w : World), (Instr.makeFunc fn first cap).run Tryd.prog w = .ok (.func fn first cap) w := fun _ _ _ _ => rfl
  have hl0 : (s.drop 32).length ≤ 40000 := by rw [List.length_drop]; omega
  have hl32 : (s.take 32).length = 32 := by rw [List.length_take]; omega
  have HQ := Lib.hid (show (s.take 32).length = BatP.zeros.length from hl32)
  have HPL := Lib.hid hl32
  have hl1 : r1.length ≤ 40000 := by have := (BatP.takeL_le hx1).2; omega
  have hl2 : r2.length ≤ 40000 := by have := (BatP.takeL_le hx2).2; omega
  have K1 := Lib.hid (fun br (H : List Hp.Blk) W (sh : Hp.Sh w W ((br, #[.string (bstr s)], 93) :: H) (fun _ => True)) => bdigest_yes br s h32 sh)
  have K2 := Lib.hid (fun br (H : List Hp.Blk) W (sh : Hp.Sh w W ((br, #[.string (bstr (s.drop 32))], 93) :: H) (fun _ => True)) => bnumber_yes br (s.drop 32) hl0 (by rw [hx1]) sh)
  rw [hx1] at K2
  dsimp only at K2
  have K3 := Lib.hid (fun br (H : List Hp.Blk) W (sh : Hp.Sh w W ((br, #[.string (bstr r1)], 93) :: H) (fun _ => True)) => bnumber_yes br r1 hl1 (by rw [hx2]) sh)
  rw [hx2] at K3
  dsimp only at K3
  have K4 := Lib.hid (fun br (H : List Hp.Blk) W (sh : Hp.Sh w W ((br, #[.string (bstr r2)], 93) :: H) (fun _ => True)) => bgather n2 hm1 hm2 br r2 hl2 sh)
  rw [hx3] at K4
  dsimp only [BatP.GatP] at K4
  have hEl := BatP.evs_b hx3
  have K5 := Lib.hid (fun (s9 : Option Addr) (c9 : Nat) (hc : l.length ≤ c9) W q => bis (n1 : Int) s9 l.length c9 l (s.take 32) rfl hc (by have := hEl.2.1; omega) hEl.1 W q)
  obtain ⟨nl, hnl⟩ : ∃ k, l.length = k := ⟨_, rfl⟩
  rw [hnl] at K4 K5
  rw [hb] at K5
  have K9 := Lib.hid (fun W => bmust_no W)
  have n1' : (bstr []).toList.isEmpty = true := by rw [bstr_toList]; rfl
  clear hs h32 hx1 hx2 hx3 hl0 hl32 hl1 hl2 hm1 hm2 hb hEl hnl
  go_enter_defers Tryd.func49, Tryd.ntmps49
  have F : True := trivial
  have tok_bb : True := trivial
  have tok_be : True := trivial
  have tok_br : True := trivial
  go_wp2_with (first
      | ((with_reducible first | refine Hp.wpl_box sh ?_ ?_ | refine Hp.wpa sh ?_ ?_ | refine Hp.atl_store ?_ ?_); exact rfl; (try (refine Hp.wsB sh ?_)); clear sh; (try clear F); go_simp; (first | (have tok := tok_bb; clear tok tok_bb; intro bb w1 sh) | (have tok := tok_be; clear tok tok_be; intro be w1 sh) | (have tok := tok_br; clear tok tok_br; intro br w1 sh) | intro b w1 sh | intro w1 sh); have F := sh.fxb)
      | fail)
  go_fit (K1.out br _ _ sh)
  clear sh; (try clear F)
  rintro e w1 ⟨rfl, sh⟩
  have F := sh.fxb
  go_wp2_with (first
      | ((with_reducible refine Hp.at_st 23 ?_ ?_); (rotate_left; exact rfl); (refine Hp.bst_prev 2 sh rfl rfl rfl HQ.out (by kernel_rfl) ?_); clear sh; (try clear F); go_simp; intro w1 sh; (have F := sh.fxb))
      | ((with_reducible first | refine Hp.wpl_box sh ?_ ?_ | refine Hp.wpa sh ?_ ?_ | refine Hp.atl_store ?_ ?_); exact rfl; (try (refine Hp.wsB sh ?_)); clear sh; (try clear F); go_simp; (first | intro b w1 sh | intro w1 sh); have F := sh.fxb)
      | fail)
  go_fit (K2.out br _ _ sh)
  clear sh; (try clear F)
  rintro e w1 ⟨rfl, sh⟩
  have F := sh.fxb
  go_wp2_with (first
      | ((with_reducible refine Hp.at_st 25 ?_ ?_); (rotate_left; exact rfl); (refine Hp.bst_first 2 sh rfl rfl rfl (by kernel_rfl) ?_); clear sh; (try clear F); go_simp; intro w1 sh; (have F := sh.fxb))
      | ((with_reducible first | refine Hp.wpl_box sh ?_ ?_ | refine Hp.wpa sh ?_ ?_ | refine Hp.atl_store ?_ ?_); exact rfl; (try (refine Hp.wsB sh ?_)); clear sh; (try clear F); go_simp; (first | intro b w1 sh | intro w1 sh); have F := sh.fxb)
      | fail)
  go_fit (K3.out br _ _ sh)
  clear sh; (try clear F)
  rintro e w1 ⟨rfl, sh⟩
  have F := sh.fxb
  go_wp2_with (first
      | ((with_reducible first | refine Hp.wpl_box sh ?_ ?_ | refine Hp.wpa sh ?_ ?_ | refine Hp.atl_store ?_ ?_); exact rfl; (try (refine Hp.wsB sh ?_)); clear sh; (try clear F); go_simp; (first | intro b w1 sh | intro w1 sh); have F := sh.fxb)
      | fail)
  go_fit (K4.out br _ _ sh)
  clear sh
  rintro e w1 ⟨s9, c9, rfl, sh, hfr, hc9, hcm9⟩
  have HFR := Lib.hid hfr
  clear hfr
  (have F := sh.fxb)
  go_wp2_with (first
      | ((with_reducible refine Hp.at_st 24 ?_ ?_); (rotate_left; exact rfl); (refine Hp.bst_evs 2 sh rfl rfl rfl (by kernel_rfl) ?_); clear sh; (try clear F); go_simp; intro w1 sh; (have F := sh.fxb))
      | ((with_reducible refine Hp.at_ld 27 ?_); (refine Hp.bld_g 2 sh rfl rfl rfl (by kernel_rfl) (BatP.bt_size HPL.out) ?_); go_simp)
      | ((with_reducible first | refine Hp.wpl_box sh ?_ ?_ | refine Hp.wpa sh ?_ ?_ | refine Hp.atl_store ?_ ?_); exact rfl; (try (refine Hp.wsB sh ?_)); clear sh; (try clear F); go_simp; (first | intro b w1 sh | intro w1 sh); have F := sh.fxb)
      | fail)
  go_fit (K5.out s9 c9 hc9 _ sh.data)
  rintro e w1 ⟨rfl, hb⟩
  replace sh := sh.call hb; clear hb; (try clear F); have F := sh.fxb
  go_wp2_with (first
      | ((with_reducible first | refine Hp.wpl_box sh ?_ ?_ | refine Hp.wpa sh ?_ ?_ | refine Hp.atl_store ?_ ?_); exact rfl; (try (refine Hp.wsB sh ?_)); clear sh; (try clear F); go_simp; (first | intro b w1 sh | intro w1 sh); have F := sh.fxb)
      | fail)
  go_fit (K9.out _)
  rintro e w1 ⟨rfl, hb⟩
  replace sh := sh.call hb; clear hb; (try clear F); have F := sh.fxb
  go_wp2_with (first
      | ((with_reducible first | refine Hp.wpl_box sh ?_ ?_ | refine Hp.wpa sh ?_ ?_ | refine Hp.atl_store ?_ ?_); exact rfl; (try (refine Hp.wsB sh ?_)); clear sh; (try clear F); go_simp; (first | intro b w1 sh | intro w1 sh); have F := sh.fxb)
      | fail)
  refine leaves_cons (f := 67) (args := #[.pointer (some ⟨bb, 0, none⟩), .pointer (some ⟨be, 0, none⟩)]) (by simp) (by simp [go_sem]) ?_
  refine (bcatch_pan bb be _ _ _ _ HPL.out _ _ [] sh.drop1).mono ?_
  clear sh
  rintro e u' w'' ⟨rfl, rfl, sh⟩
  exact ⟨_, Hp.res_cc rfl rfl (sh.load 1 rfl (by kernel_rfl) (BatP.bt_size rfl)) rfl (Hp.Sh.load1 sh 0 rfl Tryd.underlying28), rfl, sh.below⟩

set_option maxHeartbeats 1000000 in
set_option maxRecDepth 100000 in
theorem bread_8 (s : List UInt8) (hs : s.length ≤ 40000) (h32 : 32 ≤ s.length) {n1 : Nat} {r1 : List UInt8} (hx1 : WireP.takeL (s.drop 32) = (n1, r1, 0)) {n2 : Nat} {r2 : List UInt8} (hx2 : WireP.takeL r1 = (n2, r2, 0)) (hm1 : 1 ≤ n2) (hm2 : n2 ≤ 256) {l : List EvP.Ev} (hx3 : BatP.evsT n2 r2 = some (l, [])) (hb : BatP.isB ((n1 : Int), l, s.take 32) = true) (w : World) : Calls Tryd.prog 49 #[.string (bstr s)] w fun e w' => BatP.ReadP (some ((n1 : Int), l, s.take 32)) w e w' := by
  have sh := (Hp.Sh.start (fun _ _ => trivial) : Hp.Sh w w [] (fun _ => True))
  have hmf : ∀ (fn : Fn) (first cap : Array Value) (w : World), (Instr.makeFunc fn first cap).run Tryd.prog w = .ok (.func fn first cap) w := fun _ _ _ _ => rfl
  have hl0 : (s.drop 32).length ≤ 40000 := by rw [List.length_drop]; omega
  have hl32 : (s.take 32).length = 32 := by rw [List.length_take]; omega
  have HQ := Lib.hid (show (s.take 32).length = BatP.zeros.length from hl32)
  have HPL := Lib.hid hl32
  have hl1 : r1.length ≤ 40000 := by have := (BatP.takeL_le hx1).2; omega
  have hl2 : r2.length ≤ 40000 := by have := (BatP.takeL_le hx2).2; omega
  have K1 := Lib.hid (fun br (H : List Hp.Blk) W (sh : Hp.Sh w W ((br, #[.string (bstr s)], 93) :: H) (fun _ => True)) => bdigest_yes br s h32 sh)
  have K2 := Lib.hid (fun br (H : List Hp.Blk) W (sh : Hp.Sh w W ((br, #[.string (bstr (s.drop 32))], 93) :: H) (fun _ => True)) => bnumber_yes br (s.drop 32) hl0 (by rw [hx1]) sh)
  rw [hx1] at K2
  dsimp only at K2
  have K3 := Lib.hid (fun br (H : List Hp.Blk) W (sh : Hp.Sh w W ((br, #[.string (bstr r1)], 93) :: H) (fun _ => True)) => bnumber_yes br r1 hl1 (by rw [hx2]) sh)
  rw [hx2] at K3
  dsimp only at K3
  have K4 := Lib.hid (fun br (H : List Hp.Blk) W (sh : Hp.Sh w W ((br, #[.string (bstr r2)], 93) :: H) (fun _ => True)) => bgather n2 hm1 hm2 br r2 hl2 sh)
  rw [hx3] at K4
  dsimp only [BatP.GatP] at K4
  have hEl := BatP.evs_b hx3
  have K5 := Lib.hid (fun (s9 : Option Addr) (c9 : Nat) (hc : l.length ≤ c9) W q => bis (n1 : Int) s9 l.length c9 l (s.take 32) rfl hc (by have := hEl.2.1; omega) hEl.1 W q)
  obtain ⟨nl, hnl⟩ : ∃ k, l.length = k := ⟨_, rfl⟩
  rw [hnl] at K4 K5
  rw [hb] at K5
  have K9 := Lib.hid (fun W => bmust_yes W)
  have n1' : (bstr []).toList.isEmpty = true := by rw [bstr_toList]; rfl
  dsimp only [BatP.ReadP]
  rw [hnl]
  clear hs h32 hx1 hx2 hx3 hl0 hl32 hl1 hl2 hm1 hm2 hb hEl hnl
  go_enter_defers Tryd.func49, Tryd.ntmps49
  have F : True := trivial
  have tok_bb : True := trivial
  have tok_be : True := trivial
  have tok_br : True := trivial
  go_wp2_with (first
      | ((with_reducible first | refine Hp.wpl_box sh ?_ ?_ | refine Hp.wpa sh ?_ ?_ | refine Hp.atl_store ?_ ?_); exact rfl; (try (refine Hp.wsB sh ?_)); clear sh; (try clear F); go_simp; (first | (have tok := tok_bb; clear tok tok_bb; intro bb w1 sh) | (have tok := tok_be; clear tok tok_be; intro be w1 sh) | (have tok := tok_br; clear tok tok_br; intro br w1 sh) | intro b w1 sh | intro w1 sh); have F := sh.fxb)
      | fail)
  go_fit (K1.out br _ _ sh)
  clear sh; (try clear F)
  rintro e w1 ⟨rfl, sh⟩
  have F := sh.fxb
  go_wp2_with (first
      | ((with_reducible refine Hp.at_st 23 ?_ ?_); (rotate_left; exact rfl); (refine Hp.bst_prev 2 sh rfl rfl rfl HQ.out (by kernel_rfl) ?_); clear sh; (try clear F); go_simp; intro w1 sh; (have F := sh.fxb))
      | ((with_reducible first | refine Hp.wpl_box sh ?_ ?_ | refine Hp.wpa sh ?_ ?_ | refine Hp.atl_store ?_ ?_); exact rfl; (try (refine Hp.wsB sh ?_)); clear sh; (try clear F); go_simp; (first | intro b w1 sh | intro w1 sh); have F := sh.fxb)
      | fail)
  go_fit (K2.out br _ _ sh)
  clear sh; (try clear F)
  rintro e w1 ⟨rfl, sh⟩
  have F := sh.fxb
  go_wp2_with (first
      | ((with_reducible refine Hp.at_st 25 ?_ ?_); (rotate_left; exact rfl); (refine Hp.bst_first 2 sh rfl rfl rfl (by kernel_rfl) ?_); clear sh; (try clear F); go_simp; intro w1 sh; (have F := sh.fxb))
      | ((with_reducible first | refine Hp.wpl_box sh ?_ ?_ | refine Hp.wpa sh ?_ ?_ | refine Hp.atl_store ?_ ?_); exact rfl; (try (refine Hp.wsB sh ?_)); clear sh; (try clear F); go_simp; (first | intro b w1 sh | intro w1 sh); have F := sh.fxb)
      | fail)
  go_fit (K3.out br _ _ sh)
  clear sh; (try clear F)
  rintro e w1 ⟨rfl, sh⟩
  have F := sh.fxb
  go_wp2_with (first
      | ((with_reducible first | refine Hp.wpl_box sh ?_ ?_ | refine Hp.wpa sh ?_ ?_ | refine Hp.atl_store ?_ ?_); exact rfl; (try (refine Hp.wsB sh ?_)); clear sh; (try clear F); go_simp; (first | intro b w1 sh | intro w1 sh); have F := sh.fxb)
      | fail)
  go_fit (K4.out br _ _ sh)
  clear sh
  rintro e w1 ⟨s9, c9, rfl, sh, hfr, hc9, hcm9⟩
  have HFR := Lib.hid hfr
  clear hfr
  (have F := sh.fxb)
  go_wp2_with (first
      | ((with_reducible refine Hp.at_st 24 ?_ ?_); (rotate_left; exact rfl); (refine Hp.bst_evs 2 sh rfl rfl rfl (by kernel_rfl) ?_); clear sh; (try clear F); go_simp; intro w1 sh; (have F := sh.fxb))
      | ((with_reducible refine Hp.at_ld 27 ?_); (refine Hp.bld_g 2 sh rfl rfl rfl (by kernel_rfl) (BatP.bt_size HPL.out) ?_); go_simp)
      | ((with_reducible first | refine Hp.wpl_box sh ?_ ?_ | refine Hp.wpa sh ?_ ?_ | refine Hp.atl_store ?_ ?_); exact rfl; (try (refine Hp.wsB sh ?_)); clear sh; (try clear F); go_simp; (first | intro b w1 sh | intro w1 sh); have F := sh.fxb)
      | fail)
  go_fit (K5.out s9 c9 hc9 _ sh.data)
  rintro e w1 ⟨rfl, hb⟩
  replace sh := sh.call hb; clear hb; (try clear F); have F := sh.fxb
  go_wp2_with (first
      | ((with_reducible first | refine Hp.wpl_box sh ?_ ?_ | refine Hp.wpa sh ?_ ?_ | refine Hp.atl_store ?_ ?_); exact rfl; (try (refine Hp.wsB sh ?_)); clear sh; (try clear F); go_simp; (first | intro b w1 sh | intro w1 sh); have F := sh.fxb)
      | fail)
  go_fit (K9.out _)
  rintro e w1 ⟨rfl, hb⟩
  replace sh := sh.call hb; clear hb; (try clear F); have F := sh.fxb
  go_wp2_with (first
      | ((with_reducible refine Hp.at_ld 27 ?_); (refine Hp.bld_g 2 sh rfl rfl rfl (by kernel_rfl) (BatP.bt_size HPL.out) ?_); go_simp)
      | ((with_reducible refine Hp.at_st 27 ?_ ?_); (rotate_left; exact rfl); (refine Hp.bst_all 2 sh rfl rfl rfl rfl (BatP.bt_size' HPL.out) ?_); clear sh; (try clear F); go_simp; intro w1 sh; (have F := sh.fxb))
      | ((with_reducible first | refine Hp.wpl_box sh ?_ ?_ | refine Hp.wpa sh ?_ ?_ | refine Hp.atl_store ?_ ?_); exact rfl; (try (refine Hp.wsB sh ?_)); clear sh; (try clear F); go_simp; (first | intro b w1 sh | intro w1 sh); have F := sh.fxb)
      | fail)
  refine leaves_cons (f := 67) (args := #[.pointer (some ⟨bb, 0, none⟩), .pointer (some ⟨be, 0, none⟩)]) (by simp) (by simp [go_sem]) ?_
  refine (bcatch_idle _ _ _).mono ?_
  rintro e u' w'' ⟨rfl, rfl, rfl⟩
  exact ⟨_, Hp.res_cc rfl rfl (sh.load 2 rfl (by kernel_rfl) (BatP.bt_size HPL.out)) rfl (Hp.Sh.load1 sh 1 rfl Tryd.underlying28), s9, c9, rfl, HFR.out, sh.data, sh.below, hc9, hcm9⟩

theorem bread (s : List UInt8) (hs : s.length ≤ 40000) (w : World) : Calls Tryd.prog 49 #[.string (bstr s)] w fun e w' => BatP.ReadP (BatP.readB s) w e w' := by
  by_cases h32 : s.length < 32
  · rw [show BatP.readB s = none by unfold BatP.readB; rw [if_pos h32]]
    exact bread_1 s h32 w
  rcases hx1 : WireP.takeL (s.drop 32) with ⟨n1, r1, e1⟩
  by_cases he1 : e1 = 0
  · subst he1
    rcases hx2 : WireP.takeL r1 with ⟨n2, r2, e2⟩
    by_cases he2 : e2 = 0
    · subst he2
      have hB : BatP.readB s = BatP.readE (n1 : Int) n2 (s.take 32) r2 := by
        unfold BatP.readB
        rw [if_neg h32, hx1]
        dsimp only
        rw [if_neg (by simp), hx2]
        dsimp only
        rw [if_neg (by simp)]
      rw [hB]
      unfold BatP.readE
      by_cases hm : n2 < 1 ∨ 256 < n2
      · rw [if_pos hm]
        exact bread_4 s hs (by omega) hx1 hx2 hm w
      · rw [if_neg hm]
        cases hx3 : BatP.evsT n2 r2 with
        | none => exact bread_5 s hs (by omega) hx1 hx2 (by omega) (by omega) hx3 w
        | some p =>
          obtain ⟨l, r⟩ := p
          dsimp only
          by_cases hr : r = []
          · subst hr
            cases hb : BatP.isB ((n1 : Int), l, s.take 32) with
            | false => rw [if_neg (by simp)]; exact bread_7 s hs (by omega) hx1 hx2 (by omega) (by omega) hx3 hb w
            | true => rw [if_pos ⟨rfl, rfl⟩]; exact bread_8 s hs (by omega) hx1 hx2 (by omega) (by omega) hx3 hb w
          · rw [if_neg (fun h => hr h.1)]
            exact bread_6 s hs (by omega) hx1 hx2 (by omega) (by omega) hx3 hr w
    · rw [show BatP.readB s = none by
        unfold BatP.readB
        rw [if_neg h32, hx1]
        dsimp only
        rw [if_neg (by simp), hx2]
        dsimp only
        rw [if_pos he2]]
      exact bread_3 s hs (by omega) hx1 hx2 he2 w
  · rw [show BatP.readB s = none by unfold BatP.readB; rw [if_neg h32, hx1]; dsimp only; rw [if_pos he1]]
    exact bread_2 s hs (by omega) hx1 he1 w
end Go.Proofs.YtfcffglgkblidaaDoor