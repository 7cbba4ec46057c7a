/-
  Layer 21, plain: what a step keeps, a run, a run in two parts, a run hangs on its part's words alone.
-/
import Derived.Test.YtfioeliejblboaaPvPlain
import Derived.Test.YtfioeliejblboaaReg10
namespace Go.Proofs.Ytfioeliejblboaa
open Go.RowKit
set_option linter.unusedVariables false
namespace PvP
def WsB (ws : List Int) : Prop := ∀ x ∈ ws, 0 ≤ x ∧ x ≤ 4294967295
theorem reg_b {v : Vm} (h : VmB v) {i : Nat} (hi : i < 8) : 0 ≤ reg v.2 i ∧ reg v.2 i ≤ 4294967295 := by
  unfold reg
  rw [List.getD_eq_getElem?_getD, List.getElem?_eq_getElem (by rw [h.2.1]; exact hi)]
  exact h.2.2 _ (List.getElem_mem _)
theorem set_b {R : List Int} (h : WsB R) {i : Nat} {x : Int} (hx : 0 ≤ x ∧ x ≤ 4294967295) : WsB (R.set i x) := fun r hr => by
  rcases List.mem_or_eq_of_mem_set hr with hr | rfl
  · exact h r hr
  · exact hx
theorem wrap_b (x : Int) : 0 ≤ IntKind.u32.wrap x ∧ IntKind.u32.wrap x ≤ 4294967295 := by simp [IntKind.wrap, IntKind.bits, IntKind.signed]; omega
theorem xor_b (x y : Int) : 0 ≤ bits .xor .u32 x y ∧ bits .xor .u32 x y ≤ 4294967295 := wrap_b _
theorem reck_b {v : Vm} {op a b n : Int} (h : VmB v) (ha : a.toNat < 8) (hb : b.toNat < 8) (hn : 0 ≤ n ∧ n ≤ 65535) : VmB (reck v op a b n) := by
  have key : ∀ x : Int, 0 ≤ x ∧ x ≤ 4294967295 → VmB (v.1, v.2.set a.toNat x) := fun x hx => ⟨h.1, by rw [List.length_set]; exact h.2.1, set_b h.2.2 hx⟩
  have key2 : VmB (n, v.2) := ⟨by dsimp only; omega, h.2⟩
  have h1 := reg_b h ha
  have h2 := reg_b h hb
  unfold reck
  dsimp only
  split
  · exact key _ (by omega)
  split
  · exact key _ h2
  split
  · exact key _ (by omega)
  split
  · exact key _ (by omega)
  split
  · exact key _ (xor_b _ _)
  split
  · exact key2
  split
  · split
    · exact key2
    · exact h
  split
  · split
    · exact key2
    · exact h
  exact h
theorem getV_b {n : Nat} {ws : List Int} {b z a : Int} (h : WsB ws) : 0 ≤ RegP.getV n ws b z a ∧ RegP.getV n ws b z a ≤ 4294967295 := by
  unfold RegP.getV
  split
  · rw [List.getD_eq_getElem?_getD]
    cases hx : ws[(b + a).toNat]? with
    | none => simp
    | some x => exact h x (List.mem_of_getElem? hx)
  · omega
theorem setW_b {n : Nat} {ws : List Int} {b z a x : Int} (h : WsB ws) (hx : 0 ≤ x ∧ x ≤ 4294967295) : WsB (RegP.setW n ws b z a x) := by
  unfold RegP.setW
  split
  · exact set_b h hx
  · exact h
theorem setW_len {n : Nat} {ws : List Int} {b z a x : Int} : (RegP.setW n ws b z a x).length = ws.length := by unfold RegP.setW; split <;> simp
/-- Behind a step all values are in range; a kind 0 has the number 0. -/
theorem step_ok {code : List Int} {n : Nat} {b z : Int} {ws : List Int} {v : Vm} (hv : VmB v) (hw : WsB ws) (hl : ws.length = n) (hc : code.length ≤ 100000) :
    VmB (step code n b z ws v).1.1 ∧ WsB (step code n b z ws v).2 ∧ (step code n b z ws v).2.length = n ∧ ((step code n b z ws v).1.2.1 = 0 → (step code n b z ws v).1.2 = (0, 0)) := by
  unfold step
  split
  · exact ⟨hv, hw, hl, fun h => by cases h⟩
  rename_i c1
  split
  · exact ⟨hv, hw, hl, fun h => by cases h⟩
  rename_i c2
  obtain ⟨⟨⟨op, a, b2, N⟩, er⟩, hg⟩ : ∃ y, InsP.get (code.getD v.1.toNat 0) = y := ⟨_, rfl⟩
  rw [hg] at c2 ⊢
  obtain rfl : er = 0 := by simpa using c2
  obtain ⟨o1, o2, a1, a2, b1, b3, n1, n2⟩ := get_ok hg
  dsimp only
  have hpc : -9223372036854775808 ≤ v.1 + 1 ∧ v.1 + 1 ≤ 9223372036854775807 := by omega
  have hA := reg_b hv (i := a.toNat) (by omega)
  split
  · split
    · exact ⟨⟨hpc, by rw [List.length_set]; exact hv.2.1, set_b hv.2.2 (getV_b hw)⟩, hw, hl, fun _ => rfl⟩
    · exact ⟨hv, hw, hl, fun h => by cases h⟩
  split
  · split
    · exact ⟨⟨hpc, hv.2⟩, setW_b hw hA, by rw [setW_len]; exact hl, fun _ => rfl⟩
    · exact ⟨hv, hw, hl, fun h => by cases h⟩
  split
  · exact ⟨⟨hpc, hv.2⟩, hw, hl, fun h => by cases h⟩
  split
  · exact ⟨⟨hpc, hv.2⟩, hw, hl, fun h => by cases h⟩
  split
  · exact ⟨⟨hpc, hv.2⟩, hw, hl, fun h => by cases h⟩
  exact ⟨reck_b (v := (v.1 + 1, v.2)) ⟨hpc, hv.2⟩ (by omega) (by omega) ⟨n1, n2⟩, hw, hl, fun _ => rfl⟩
/-- A step changes no word, or one of its part; a fault changes nothing. -/
theorem step_keeps {code : List Int} {n : Nat} {b z : Int} {ws : List Int} {v : Vm} : (((step code n b z ws v).1.2.1 = 4 → (step code n b z ws v).1.1 = v) ∧ (step code n b z ws v).2 = ws) ∨
    ((step code n b z ws v).1.2.1 ≠ 4 ∧ ∃ (j : Nat) (x : Int), b ≤ j ∧ (j : Int) - b < z ∧ (step code n b z ws v).2 = ws.set j x) := by
  unfold step
  split
  · exact .inl ⟨fun _ => rfl, rfl⟩
  split
  · exact .inl ⟨fun _ => rfl, rfl⟩
  dsimp only
  split
  · split
    · exact .inl ⟨fun h => (by cases h), rfl⟩
    · exact .inl ⟨fun _ => rfl, rfl⟩
  split
  · split
    · rename_i hp
      right
      refine ⟨(show (0 : Int) ≠ 4 by decide), ?_⟩
      obtain ⟨b', z', a', k', rfl, rfl, e3, e4, e5, e6, e7⟩ := RegP.pc_zero hp
      unfold RegP.setW
      rw [if_pos hp, e3]
      refine ⟨b' + a', _, by omega, by omega, by rw [show ((b' : Int) + (a' : Int)).toNat = b' + a' by omega]⟩
    · exact .inl ⟨fun _ => rfl, rfl⟩
  split
  · exact .inl ⟨fun h => (by cases h), rfl⟩
  split
  · exact .inl ⟨fun h => (by cases h), rfl⟩
  split
  · exact .inl ⟨fun h => (by cases h), rfl⟩
  exact .inl ⟨fun h => (by cases h), rfl⟩

/-! ### A run -/
def run (code : List Int) (n : Nat) (b z : Int) : Nat → List Int → Vm → ((Vm × Tr) × Nat) × List Int
  | 0, ws, v => (((v, (0, 0)), 0), ws)
  | m + 1, ws, v => if (step code n b z ws v).1.2.1 = 0 then (((run code n b z m (step code n b z ws v).2 (step code n b z ws v).1.1).1.1, (run code n b z m (step code n b z ws v).2 (step code n b z ws v).1.1).1.2 + 1), (run code n b z m (step code n b z ws v).2 (step code n b z ws v).1.1).2) else (((step code n b z ws v).1, 1), (step code n b z ws v).2)
theorem run_le {code : List Int} {n : Nat} {b z : Int} : ∀ (m : Nat) (ws : List Int) (v : Vm), (run code n b z m ws v).1.2 ≤ m
  | 0, _, _ => Nat.le_refl _
  | m + 1, ws, v => by
    rw [run]
    split
    · have := run_le (code := code) (n := n) (b := b) (z := z) m (step code n b z ws v).2 (step code n b z ws v).1.1
      dsimp only; omega
    · dsimp only; omega
theorem run_add {code : List Int} {n : Nat} {b z : Int} : ∀ (i j : Nat) (ws : List Int) (v : Vm), (run code n b z i ws v).1.1.2.1 = 0 → (run code n b z i ws v).1.2 = i ∧
    run code n b z (i + j) ws v = (((run code n b z j (run code n b z i ws v).2 (run code n b z i ws v).1.1.1).1.1, i + (run code n b z j (run code n b z i ws v).2 (run code n b z i ws v).1.1.1).1.2), (run code n b z j (run code n b z i ws v).2 (run code n b z i ws v).1.1.1).2)
  | 0, j, ws, v, _ => ⟨rfl, by rw [Nat.zero_add]; simp [run]⟩
  | i + 1, j, ws, v, h => by
    by_cases c : (step code n b z ws v).1.2.1 = 0
    · have e : run code n b z (i + 1) ws v = (((run code n b z i (step code n b z ws v).2 (step code n b z ws v).1.1).1.1, (run code n b z i (step code n b z ws v).2 (step code n b z ws v).1.1).1.2 + 1), (run code n b z i (step code n b z ws v).2 (step code n b z ws v).1.1).2) := by rw [run, if_pos c]
      rw [e] at h ⊢
      dsimp only at h ⊢
      obtain ⟨h1, h2⟩ := run_add i j _ _ h
      refine ⟨by omega, ?_⟩
      rw [show i + 1 + j = (i + j) + 1 by omega, run, if_pos c, h2]
      dsimp only
      rw [show i + (run code n b z j (run code n b z i (step code n b z ws v).2 (step code n b z ws v).1.1).2 (run code n b z i (step code n b z ws v).2 (step code n b z ws v).1.1).1.1.1).1.2 + 1 = i + 1 + (run code n b z j (run code n b z i (step code n b z ws v).2 (step code n b z ws v).1.1).2 (run code n b z i (step code n b z ws v).2 (step code n b z ws v).1.1).1.1.1).1.2 by omega]
    · rw [run, if_neg c] at h
      exact absurd h c
theorem run_ok {code : List Int} {n : Nat} {b z : Int} (hc : code.length ≤ 100000) : ∀ (m : Nat) (ws : List Int) (v : Vm), VmB v → WsB ws → ws.length = n → VmB (run code n b z m ws v).1.1.1 ∧ WsB (run code n b z m ws v).2 ∧ (run code n b z m ws v).2.length = n ∧ ((run code n b z m ws v).1.1.2.1 = 0 → (run code n b z m ws v).1.1.2 = (0, 0))
  | 0, ws, v, hv, hw, hl => ⟨hv, hw, hl, fun _ => rfl⟩
  | m + 1, ws, v, hv, hw, hl => by
    obtain ⟨h1, h2, h3, h4⟩ := step_ok (b := b) (z := z) hv hw hl hc
    rw [run]
    split
    · exact run_ok hc m _ _ h1 h2 h3
    · exact ⟨h1, h2, h3, h4⟩
/-- Where a run is behind d steps. -/
def Rn (code : List Int) (n : Nat) (b z : Int) (M : Nat) (ws : List Int) (v : Vm) (d : Nat) (ws' : List Int) (v' : Vm) (t' : Tr) : Prop :=
  (t' = (0, 0) ∧ run code n b z M ws v = (((run code n b z (M - d) ws' v').1.1, (run code n b z (M - d) ws' v').1.2 + d), (run code n b z (M - d) ws' v').2)) ∨ (t'.1 ≠ 0 ∧ run code n b z M ws v = (((v', t'), d), ws'))
theorem Rn.start (code : List Int) (n : Nat) (b z : Int) (M : Nat) (ws : List Int) (v : Vm) : Rn code n b z M ws v 0 ws v (0, 0) := .inl ⟨rfl, rfl⟩
theorem Rn.zero {code : List Int} {n : Nat} {b z : Int} {M : Nat} {ws : List Int} {v : Vm} {d : Nat} {ws' : List Int} {v' : Vm} {tn : Int} (h : Rn code n b z M ws v d ws' v' (0, tn)) : Rn code n b z M ws v d ws' v' (0, 0) := by
  rcases h with h | h
  · exact .inl ⟨rfl, h.2⟩
  · exact absurd rfl h.1
theorem Rn.next {code : List Int} {n : Nat} {b z : Int} {M : Nat} {ws : List Int} {v : Vm} {d : Nat} {ws' : List Int} {v' : Vm} (h : Rn code n b z M ws v d ws' v' (0, 0)) (hd : d < M) (hz : (step code n b z ws' v').1.2.1 = 0 → (step code n b z ws' v').1.2 = (0, 0)) :
    Rn code n b z M ws v (d + 1) (step code n b z ws' v').2 (step code n b z ws' v').1.1 (step code n b z ws' v').1.2 := by
  rcases h with ⟨-, h⟩ | ⟨h, -⟩
  · rw [show M - d = (M - (d + 1)) + 1 by omega, run] at h
    by_cases c : (step code n b z ws' v').1.2.1 = 0
    · rw [if_pos c] at h
      refine .inl ⟨hz c, h.trans ?_⟩
      dsimp only
      rw [show ∀ x : Nat, x + 1 + d = x + (d + 1) by intro x; omega]
    · rw [if_neg c] at h
      refine .inr ⟨c, h.trans ?_⟩
      dsimp only
      rw [Nat.add_comm 1 d]
  · exact absurd rfl h
theorem Rn.stop {code : List Int} {n : Nat} {b z : Int} {M : Nat} {ws : List Int} {v : Vm} {d : Nat} {ws' : List Int} {v' : Vm} {t' : Tr} (h : Rn code n b z M ws v d ws' v' t') (hd : M ≤ d ∨ t'.1 ≠ 0) : run code n b z M ws v = (((v', t'), d), ws') := by
  rcases h with ⟨rfl, h⟩ | ⟨-, h⟩
  · rcases hd with hd | hd
    · rw [show M - d = 0 by omega] at h
      rw [h]; simp [run]
    · exact absurd rfl hd
  · exact h

/-! ### Its part's words alone -/
theorem pc_lt {n : Nat} {b z a : Int} (h : RegP.pc n b z a 1 = 0) : RegP.oc n b z = true ∧ 0 ≤ a ∧ a < z ∧ 0 ≤ b ∧ b + z ≤ n := by
  obtain ⟨b', z', a', k', rfl, rfl, rfl, h4, h5, h6, h7⟩ := RegP.pc_zero h
  refine ⟨decide_eq_true ⟨by omega, by omega, by omega⟩, by omega, by omega, by omega, by omega⟩
theorem getV_view {n : Nat} {ws : List Int} {b z a : Int} (hl : ws.length = n) (h : RegP.pc n b z a 1 = 0) : RegP.getV n ws b z a = (RegP.viewW n ws b z).getD a.toNat 0 := by
  obtain ⟨h1, h2, h3, h4, h5⟩ := pc_lt h
  unfold RegP.getV RegP.viewW
  rw [if_pos h, if_pos h1, List.getD_eq_getElem?_getD, List.getD_eq_getElem?_getD, List.getElem?_take, if_pos (by omega), List.getElem?_drop, show b.toNat + a.toNat = (b + a).toNat by omega]
theorem view_set {n : Nat} {ws : List Int} {b z a x : Int} (hl : ws.length = n) (h : RegP.pc n b z a 1 = 0) : RegP.viewW n (RegP.setW n ws b z a x) b z = (RegP.viewW n ws b z).set a.toNat x := by
  obtain ⟨h1, h2, h3, h4, h5⟩ := pc_lt h
  unfold RegP.setW RegP.viewW
  rw [if_pos h, if_pos h1, if_pos h1]
  apply List.ext_getElem?
  intro j
  rw [List.getElem?_take]
  by_cases hj : j < z.toNat
  · rw [if_pos hj, List.getElem?_drop, List.getElem?_set, List.getElem?_set, List.getElem?_take, if_pos hj, List.getElem?_drop, List.length_take, List.length_drop]
    by_cases e : a.toNat = j
    · rw [if_pos e, if_pos (by omega), if_pos (by omega), if_pos (by omega)]
    · rw [if_neg e, if_neg (by omega)]
  · rw [if_neg hj, List.getElem?_eq_none (by rw [List.length_set, List.length_take]; omega)]
theorem step_same {code : List Int} {n : Nat} {b z : Int} {ws ws2 : List Int} {v : Vm} (hl : ws.length = n) (hl2 : ws2.length = n) (hv : RegP.viewW n ws b z = RegP.viewW n ws2 b z) :
    (step code n b z ws v).1 = (step code n b z ws2 v).1 ∧ RegP.viewW n (step code n b z ws v).2 b z = RegP.viewW n (step code n b z ws2 v).2 b z := by
  unfold step
  split
  · exact ⟨rfl, hv⟩
  split
  · exact ⟨rfl, hv⟩
  dsimp only
  split
  · split
    · rename_i hp
      exact ⟨by rw [getV_view hl hp, getV_view hl2 hp, hv], hv⟩
    · exact ⟨rfl, hv⟩
  split
  · split
    · rename_i hp
      exact ⟨rfl, by rw [view_set hl hp, view_set hl2 hp, hv]⟩
    · exact ⟨rfl, hv⟩
  split
  · exact ⟨rfl, hv⟩
  split
  · exact ⟨rfl, hv⟩
  split
  · exact ⟨rfl, hv⟩
  exact ⟨rfl, hv⟩
theorem wrap_id {x : Int} (h : 0 ≤ x ∧ x ≤ 4294967295) : IntKind.u32.wrap x = x := by simp [IntKind.wrap, IntKind.bits, IntKind.signed]; omega
theorem step_apart {code : List Int} {n : Nat} {b z b2 z2 : Int} {ws : List Int} {v : Vm} (hv : VmB v) (hl : ws.length = n) (hn : n ≤ 1099511627776) (ha : RegP.apB b z b2 z2 = true) :
    RegP.viewW n (step code n b z ws v).2 b2 z2 = RegP.viewW n ws b2 z2 := by
  have key : ∀ a x : Int, 0 ≤ x ∧ x ≤ 4294967295 → RegP.viewW n (RegP.setW n ws b z a x) b2 z2 = RegP.viewW n ws b2 z2 := fun a x hx => by
    have := RegP.step_apart (l := []) (kd := 1) (at' := a) (nn := x) hl hn ha
    unfold RegP.stepW at this
    rw [if_pos rfl, wrap_id hx] at this
    exact this
  unfold step
  split
  · rfl
  split
  · rfl
  rename_i c2
  obtain ⟨⟨⟨op, a, b3, N⟩, er⟩, hg⟩ : ∃ y, InsP.get (code.getD v.1.toNat 0) = y := ⟨_, rfl⟩
  rw [hg] at c2 ⊢
  obtain rfl : er = 0 := by simpa using c2
  obtain ⟨o1, o2, a1, a2, b1, b4, n1, n2⟩ := get_ok hg
  dsimp only
  split
  · split <;> rfl
  split
  · split
    · exact key _ _ (reg_b hv (by omega))
    · rfl
  split
  · rfl
  split
  · rfl
  split
  · rfl
  rfl
end PvP
end Go.Proofs.Ytfioeliejblboaa
