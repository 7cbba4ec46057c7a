
/-
  The walks of read and of its deferred closure.
-/
import Derived.Test.YtfcffglgkblidaaDoorBat4
import Derived.Defers
import Derived.Recover
namespace Go.Proofs.YtfcffglgkblidaaDoor
open Go.RowKit
set_option linter.unusedVariables false
set_option linter.unusedSimpArgs false
theorem Hp.Sh.load1 {P : Program} {w0 w : World} {H : List Hp.Blk} {D : World → Prop} {b : Nat} {v : Value} {t T : TypeId} {k : IntKind} (h : Hp.Sh w0 w H D) (i : Nat) (hi : H[i]? = some (b, #[v], t)) (hu : P.underlying T = some (.int k)) : (loadVar T ⟨b, 0, none⟩).run P w = .ok v w := by
  have hc := Hp.boxH (h.own _ (List.mem_of_getElem? hi)) 0 (v := v) rfl
  have hagg : (isAgg T).run P w = .ok false w := by
    unfold isAgg
    rw [Sem.run_bind, run_underlying hu w]
    rfl
  simp [loadVar, Sem.run_bind, hagg, load, hc]

theorem Tryd.zb_bt (W : World) : (Instr.build 27 #[]).run Tryd.prog W = .ok (.agg (BatP.btA 0 (.slice none 0 0) BatP.zeros)) W := by kernel_rfl
set_option maxHeartbeats 1000000 in
set_option maxRecDepth 100000 in
theorem bcatch_pan (bb be : Nat) (f : Int) (v : Value) (p : List UInt8) (x : Int) (hp : p.length = 32) (T : TypeId) (pv : Value) (older : List PanicEntry) {w0 w : World} {H : List Hp.Blk} {D : World → Prop} (sh : Hp.Sh w0 w ((be, #[.int .i64 x], 28) :: (bb, BatP.btA f v p, 27) :: H) D) :
    CallsD Tryd.prog 67 #[.pointer (some ⟨bb, 0, none⟩), .pointer (some ⟨be, 0, none⟩)] (.panicking ({ v := .iface T pv, recovered := false } :: older)) w fun e u' w' =>
      e = .returned (.tuple #[]) ∧ u' = .panicking ({ v := .iface T pv, recovered := true } :: older) ∧ Hp.Sh w0 w' ((be, #[.int .i64 3], 28) :: (bb, BatP.btA 0 (.slice none 0 0) BatP.zeros, 27) :: H) D := by
  refine callsD_of_wpS Tryd.func67 rfl fun c₀ cs hu => ?_
  apply wpS_seq
  apply wpS_region
  simp [wpOpsS, go_sem, recoverD, hu, Tryd.ntmps67, Exit.thenS]
  apply wpS_seq
  apply wpS_region
  simp [wpOpsS, go_sem, recoverD, hu, Tryd.ntmps67, Exit.thenS]
  refine wpS_cond (t := true) (by simp [Act.eval, Array.replicate]) ?_
  simp only [if_true]
  refine wpS_of_wp ?_
  rw [show (#[Value.pointer (some ⟨bb, 0, none⟩), Value.pointer (some ⟨be, 0, none⟩)] ++ ((((Array.replicate 5 undef).setIfInBounds 1 (Value.iface T pv)).setIfInBounds 0 (Value.iface T pv)).setIfInBounds 2 (Value.iface T pv)).setIfInBounds 3 (Value.bool true)) = #[Value.pointer (some ⟨bb, 0, none⟩), Value.pointer (some ⟨be, 0, none⟩), Value.iface T pv, Value.iface T pv, Value.iface T pv, Value.bool true, undef] from rfl]
  have F : True := trivial
  have ZB := Tryd.zb_bt
  go_wp2_with (first
      | ((with_reducible refine Hp.at_st 27 ?_ ?_); (rotate_left; exact rfl); (refine Hp.bst_all (g := 0) (s := none) (n := 0) (c := 0) (q := BatP.zeros) 1 sh rfl rfl rfl (by rw [hp]; rfl) (BatP.bt_size' hp) ?_); clear sh; (try clear F); go_simp; intro w1 sh; (have F := sh.fxb))
      | ((with_reducible first | refine Hp.wpl_box sh ?_ ?_ | refine Hp.wpa sh ?_ ?_ | refine Hp.atl_store ?_ ?_); exact rfl; (try (refine Hp.wsB sh ?_)); clear sh; (try clear F); go_simp; (first | intro b w1 sh | intro w1 sh); have F := sh.fxb)
      | fail)
  simp [bodyPostS, results, Tryd.results67]
  exact sh

set_option maxHeartbeats 1000000 in
set_option maxRecDepth 100000 in
theorem bcatch_idle (p q : Addr) (w : World) :
    CallsD Tryd.prog 67 #[.pointer (some p), .pointer (some q)] .returning w fun e u' w' => e = .returned (.tuple #[]) ∧ u' = .returning ∧ w' = w := by
  refine callsD_of_wpS Tryd.func67 rfl fun c₀ cs hu => ?_
  apply wpS_seq
  apply wpS_region
  simp [wpOpsS, go_sem, recoverD, hu, Tryd.ntmps67, Exit.thenS]
  apply wpS_seq
  apply wpS_region
  simp [wpOpsS, go_sem, recoverD, hu, Tryd.ntmps67, Exit.thenS]
  refine wpS_cond (t := false) (by simp [Act.eval, Array.replicate]) ?_
  simp only [Bool.false_eq_true, if_false]
  refine wpS_of_wp (wp_skip ?_)
  cases c₀
  simp_all [bodyPostS, results, Tryd.results67]

/-- What read answers. -/
def BatP.ReadP (o : Option BatP.Ba) (w : World) (e : Ending) (w' : World) : Prop :=
  match o with
  | none => e = .returned (.tuple #[.agg (BatP.btA 0 (.slice none 0 0) BatP.zeros), .int .i64 3]) ∧ Below w.heap.size w w'
  | some b => ∃ s c, e = .returned (.tuple #[.agg (BatP.btA b.1 (.slice s b.2.1.length c) b.2.2), .int .i64 0]) ∧ (∀ p, s = some p → w.heap.size ≤ p.block) ∧ Hp.RdV w' s (b.2.1.flatMap EvP.evc) ∧ Below w.heap.size w w' ∧ b.2.1.length ≤ c ∧ c ≤ maxLen
set_option maxHeartbeats 1000000 in
set_option maxRecDepth 100000 in
theorem bread_1 (s : List UInt8) (hs : s.length < 32) (w : World) : Calls Tryd.prog 49 #[.string (bstr s)] w fun e w' => e = .returned (.tuple #[.agg (BatP.btA 0 (.slice none 0 0) BatP.zeros), .int .i64 3]) ∧ Below w.heap.size w w' := by
  have sh := (Hp.Sh.start (fun _ _ => trivial) : Hp.Sh w w [] (fun _ => True))
  have hmf : ∀ (fn : Fn) (first cap : Array Value) (w : World), (Instr.makeFunc fn first cap).run Tryd.prog w = .ok (.func fn first cap) w := fun _ _ _ _ => rfl
  have K1 := Lib.hid (fun br (H : List Hp.Blk) W (sh : Hp.Sh w W ((br, #[.string (bstr s)], 93) :: H) (fun _ => True)) => bdigest_no br s hs sh)
  clear hs
  go_enter_defers Tryd.func49, Tryd.ntmps49
  have F : True := trivial
  have tok_bb : True := trivial
  have tok_be : True := trivial
  have tok_br : True := trivial
  go_wp2_with (first
      | ((with_reducible first | refine Hp.wpl_box sh ?_ ?_ | refine Hp.wpa sh ?_ ?_ | refine Hp.atl_store ?_ ?_); exact rfl; (try (refine Hp.wsB sh ?_)); clear sh; (try clear F); go_simp; (first | (have tok := tok_bb; clear tok tok_bb; intro bb w1 sh) | (have tok := tok_be; clear tok tok_be; intro be w1 sh) | (have tok := tok_br; clear tok tok_br; intro br w1 sh) | intro b w1 sh | intro w1 sh); have F := sh.fxb)
      | fail)
  go_fit (K1.out br _ _ sh)
  clear sh
  rintro e w1 ⟨rfl, sh⟩
  go_wp2_with (first
      | ((with_reducible first | refine Hp.wpl_box sh ?_ ?_ | refine Hp.wpa sh ?_ ?_ | refine Hp.atl_store ?_ ?_); exact rfl; (try (refine Hp.wsB sh ?_)); clear sh; (try clear F); go_simp; (first | intro b w1 sh | intro w1 sh); have F := sh.fxb)
      | fail)
  refine leaves_cons (f := 67) (args := #[.pointer (some ⟨bb, 0, none⟩), .pointer (some ⟨be, 0, none⟩)]) (by simp) (by simp [go_sem]) ?_
  refine (bcatch_pan bb be _ _ _ _ rfl _ _ [] sh.drop1).mono ?_
  clear sh
  rintro e u' w'' ⟨rfl, rfl, sh⟩
  exact ⟨_, Hp.res_cc rfl rfl (sh.load 1 rfl (by kernel_rfl) (BatP.bt_size rfl)) rfl (Hp.Sh.load1 sh 0 rfl Tryd.underlying28), rfl, sh.below⟩
end Go.Proofs.YtfcffglgkblidaaDoor
