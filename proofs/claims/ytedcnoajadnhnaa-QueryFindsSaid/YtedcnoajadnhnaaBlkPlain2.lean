
/-
  Layers 14 and 15, plain: a block of which an event fits may; what is joined may.
-/
import Derived.Test.YtedcnoajadnhnaaBlkPlain
namespace Go.Proofs.Ytedcnoajadnhnaa
open Go.RowKit
set_option linter.unusedVariables false
namespace QryP
theorem may_of {q : Qy} {b : Bk} (h0 : 0 < b.2.1) (h1 : b.2.2.1 + (b.2.1 - 1) ≤ 18446744073709551615) (n : Int) (a1 : b.2.2.1 ≤ n) (a2 : n ≤ b.2.2.1 + (b.2.1 - 1)) (a3 : q.1 ≤ n) (a4 : n ≤ q.2.1)
    (t1 : q.2.2.1 ≤ b.2.2.2.2.1) (t2 : b.2.2.2.1 ≤ q.2.2.2.1) (p1 : hit q.2.2.2.2.1 b.2.2.2.2.2.1 = true) (p2 : hit q.2.2.2.2.2.1 b.2.2.2.2.2.2 = true) : may q b = true := by
  have ho : over b = false := by unfold over; rw [decide_eq_false_iff_not]; omega
  have hn : numB q b = true := by
    unfold numB loB hiB
    rw [ho]
    simp only [Bool.false_eq_true, if_false, decide_eq_true_eq]
    split <;> split <;> omega
  unfold may
  rw [hn, p1, p2, decide_eq_true h0, decide_eq_true t1, decide_eq_true t2]
  rfl
theorem may_back {q : Qy} {b : Bk} (h : may q b = true) (h1 : b.2.2.1 + (b.2.1 - 1) ≤ 18446744073709551615) : 0 < b.2.1 ∧ (∃ n, b.2.2.1 ≤ n ∧ n ≤ b.2.2.1 + (b.2.1 - 1) ∧ q.1 ≤ n ∧ n ≤ q.2.1) ∧
    q.2.2.1 ≤ b.2.2.2.2.1 ∧ b.2.2.2.1 ≤ q.2.2.2.1 ∧ hit q.2.2.2.2.1 b.2.2.2.2.2.1 = true ∧ hit q.2.2.2.2.2.1 b.2.2.2.2.2.2 = true := by
  have ho : over b = false := by unfold over; rw [decide_eq_false_iff_not]; omega
  unfold may at h
  simp only [Bool.and_eq_true, decide_eq_true_eq] at h
  obtain ⟨h0, hn, ⟨t1, t2⟩, p1, p2⟩ := h
  refine ⟨h0, ?_, t1, t2, p1, p2⟩
  unfold numB loB hiB at hn
  rw [ho] at hn
  simp only [Bool.false_eq_true, if_false, decide_eq_true_eq] at hn
  by_cases c : q.1 ≤ b.2.2.1
  · rw [if_pos c] at hn
    refine ⟨b.2.2.1, Int.le_refl _, by omega, c, ?_⟩
    split at hn <;> omega
  · rw [if_neg c] at hn
    refine ⟨q.1, by omega, ?_, Int.le_refl _, ?_⟩ <;> split at hn <;> omega

theorem drop_take_get {l : List Ev} {a m i : Nat} (hi : i < m) (h : a + i < l.length) : ((l.drop a).take m).getD i EvP.zero = l.getD (a + i) EvP.zero := by
  rw [List.getD_eq_getElem?_getD, List.getD_eq_getElem?_getD, List.getElem?_take, if_pos hi, List.getElem?_drop]
theorem firstS_piece {l : List Ev} {a m : Nat} (hm : 1 ≤ m) (h : a < l.length) : firstS ((l.drop a).take m) = (l.getD a EvP.zero).1 := by
  unfold firstS
  rw [drop_take_get (by omega) (by omega)]; rfl
theorem ev_ge {l : List Ev} (hE : ∀ x ∈ l, EvP.EvB x) {i : Nat} (h : i < l.length) : EvP.EvB (l.getD i EvP.zero) := by
  rw [List.getD_eq_getElem?_getD, List.getElem?_eq_getElem h]
  exact hE _ (List.getElem_mem h)
/-- The numbers of a piece of a row that runs. -/
theorem seq_range {l : List Ev} (hE : ∀ x ∈ l, EvP.EvB x) (hr : EvP.runB l = true) {a m : Nat} (hm : 1 ≤ m) (h : a + m ≤ l.length) :
    firstS ((l.drop a).take m) = firstS l + a ∧ firstS ((l.drop a).take m) + ((((l.drop a).take m).length : Int) - 1) ≤ 18446744073709551615 ∧ ((l.drop a).take m).length = m := by
  have hlen : ((l.drop a).take m).length = m := by rw [List.length_take, List.length_drop]; omega
  rw [firstS_piece hm (by omega), hlen]
  have h1 := run_seq hr (i := a) (by omega)
  have h2 := run_seq hr (i := a + m - 1) (by omega)
  have h3 := (ev_ge hE (i := a + m - 1) (by omega)).1
  refine ⟨h1, ?_, rfl⟩
  omega
theorem may_ev {q : Qy} {l : List Ev} (hE : ∀ x ∈ l, EvP.EvB x) (hr : EvP.runB l = true) {a m k : Nat} (h : a + m ≤ l.length) (hk1 : a ≤ k) (hk2 : k < a + m) (hf : fit q (l[k]'(by omega)) = true) : may q (blkOf a ((l.drop a).take m)) = true := by
  obtain ⟨s1, s2, s3⟩ := seq_range hE hr (m := m) (by omega) h
  have hx : l[k]'(by omega) ∈ (l.drop a).take m := by
    refine List.mem_of_getElem? (i := k - a) ?_
    rw [List.getElem?_take, if_pos (by omega), List.getElem?_drop, show a + (k - a) = k by omega, List.getElem?_eq_getElem (by omega)]
  have hq := run_seq hr (i := k) (by omega)
  rw [List.getD_eq_getElem?_getD, List.getElem?_eq_getElem (by omega), Option.getD_some] at hq
  have hfs : firstS l = (l.getD 0 EvP.zero).1 := rfl
  unfold fit at hf
  simp only [Bool.and_eq_true, decide_eq_true_eq] at hf
  obtain ⟨⟨f1, f2⟩, ⟨f3, f4⟩, f5, f6⟩ := hf
  generalize (l[k]'(by omega)) = x at hx hq f1 f2 f3 f4 f5 f6
  have e1 := lowT_le hx
  have e2 := highT_ge hx
  refine may_of (b := blkOf a ((l.drop a).take m)) ?_ s2 x.1 ?_ ?_ f1 f2 ?_ ?_ (hit_orP hx f5) (hit_orK hx f6)
  · show (0 : Int) < (((l.drop a).take m).length : Int); omega
  · show firstS ((l.drop a).take m) ≤ _; omega
  · show _ ≤ firstS ((l.drop a).take m) + ((((l.drop a).take m).length : Int) - 1); omega
  · show _ ≤ highT ((l.drop a).take m); omega
  · show lowT ((l.drop a).take m) ≤ _; omega
theorem lowT_sub {s l : List Ev} (hs : s ≠ []) (h : ∀ x ∈ s, x ∈ l) : lowT l ≤ lowT s := by
  obtain ⟨x, hx, he⟩ := lowT_mem hs
  rw [← he]; exact lowT_le (h x hx)
theorem highT_sub {s l : List Ev} (hs : s ≠ []) (h : ∀ x ∈ s, x ∈ l) : highT s ≤ highT l := by
  obtain ⟨x, hx, he⟩ := highT_mem hs
  rw [← he]; exact highT_ge (h x hx)
theorem may_up {q : Qy} {l : List Ev} (hE : ∀ x ∈ l, EvP.EvB x) (hr : EvP.runB l = true) {a m : Nat} (hm : 1 ≤ m) (h : a + m ≤ l.length) (hf : may q (blkOf a ((l.drop a).take m)) = true) : may q (blkOf 0 l) = true := by
  obtain ⟨s1, s2, s3⟩ := seq_range hE hr hm h
  obtain ⟨-, w2, -⟩ := seq_range hE hr (a := 0) (m := l.length) (by omega) (by omega)
  rw [List.drop_zero, List.take_length] at w2
  obtain ⟨-, ⟨n, a1, a2, a3, a4⟩, t1, t2, p1, p2⟩ := may_back hf s2
  simp only [blkOf] at a1 a2 t1 t2 p1 p2
  have hne : (l.drop a).take m ≠ [] := by intro e; rw [e] at s3; simp at s3; omega
  have hsub : ∀ x ∈ (l.drop a).take m, x ∈ l := fun x hx => List.mem_of_mem_drop (List.mem_of_mem_take hx)
  have e1 := lowT_sub hne hsub
  have e2 := highT_sub hne hsub
  have hl : l = l.take a ++ ((l.drop a).take m ++ (l.drop a).drop m) := by rw [List.take_append_drop, List.take_append_drop]
  refine may_of (b := blkOf 0 l) ?_ w2 n ?_ ?_ a3 a4 ?_ ?_ ?_ ?_
  · show (0 : Int) < (l.length : Int); omega
  · show firstS l ≤ n; omega
  · show n ≤ firstS l + ((l.length : Int) - 1); omega
  · show _ ≤ highT l; omega
  · show lowT l ≤ _; omega
  · show hit _ (orP l) = true
    rw [hl, orP_app, orP_app]
    exact hit_or2 _ (hit_or _ p1)
  · show hit _ (orK l) = true
    rw [hl, orK_app, orK_app]
    exact hit_or2 _ (hit_or _ p2)

/-! ### The bounds of blocks -/
theorem lowT_b {s : List Ev} (hE : ∀ x ∈ s, EvP.EvB x) : -9223372036854775808 ≤ lowT s ∧ lowT s ≤ 9223372036854775807 := by
  by_cases c : s = []
  · subst c; simp [lowT]
  · obtain ⟨x, hx, he⟩ := lowT_mem c
    rw [← he]; exact (hE x hx).2.1
theorem highT_b {s : List Ev} (hE : ∀ x ∈ s, EvP.EvB x) : -9223372036854775808 ≤ highT s ∧ highT s ≤ 9223372036854775807 := by
  by_cases c : s = []
  · subst c; simp [highT]
  · obtain ⟨x, hx, he⟩ := highT_mem c
    rw [← he]; exact (hE x hx).2.1
theorem firstS_b {s : List Ev} (hE : ∀ x ∈ s, EvP.EvB x) : 0 ≤ firstS s ∧ firstS s ≤ 18446744073709551615 := by
  cases s with
  | nil => simp [firstS, EvP.zero]
  | cons x r => exact (hE x (by simp)).1
theorem blk_b {s : List Ev} {a : Nat} (hE : ∀ x ∈ s, EvP.EvB x) (ha : a ≤ 1000000) (hs : s.length ≤ 1000000) : BkB (blkOf a s) := by
  have h1 := lowT_b hE; have h2 := highT_b hE; have h3 := firstS_b hE; have h4 := orP_range s; have h5 := orK_range s
  unfold BkB blkOf
  dsimp only
  exact ⟨⟨by omega, by omega⟩, ⟨by omega, by omega⟩, h3, h1, h2, h4, h5⟩
theorem piece_sub {l : List Ev} {step i k : Nat} : ∀ x ∈ piece l step i k, x ∈ l := fun x hx => List.mem_of_mem_drop (List.mem_of_mem_take hx)

/-! ### Joined, block by block -/
theorem blk_nil : blkOf 0 [] = zeroB := rfl
theorem join_more {l : List Ev} {a m : Nat} (hm : 1 ≤ m) (hl : a + m ≤ l.length) (hs : l.length ≤ 1000000) : join (blkOf 0 (l.take a)) (blkOf a ((l.drop a).take m)) = blkOf 0 (l.take (a + m)) := by
  rcases Nat.eq_zero_or_pos a with rfl | ha
  · rw [List.take_zero, blk_nil, join_zero (by rw [List.length_take, List.length_drop]; omega), List.drop_zero, Nat.zero_add]
    rfl
  · rw [blk_join ?_ ?_ ?_, ← List.take_add]
    · intro e; have := congrArg List.length e; rw [List.length_take, List.length_nil] at this; omega
    · intro e; have := congrArg List.length e; rw [List.length_take, List.length_drop, List.length_nil] at this; omega
    · rw [List.length_take, List.length_take, List.length_drop]; omega
/-- Where the k-th block begins. -/
def Pos (step n N k a : Nat) : Prop := (k < N → a = k * step) ∧ (N ≤ k → a = n)
theorem Pos.start {l : List Ev} {step n : Nat} {bs : List Bk} (h : Bl l step n bs) : Pos step n bs.length 0 0 := by
  refine ⟨fun _ => by simp, fun h0 => ?_⟩
  have hi := h.hi
  rw [show bs.length = 0 by omega] at hi
  simp at hi
  omega
/-- The k-th block: where it begins, how many it has, and that it is that of these events. -/
theorem Pos.blk {l : List Ev} {step n : Nat} {bs : List Bk} (h : Bl l step n bs) (hs : 1 ≤ step) (hn : n = l.length) {k a : Nat} (hk : k < bs.length) (hp : Pos step n bs.length k a) :
    ∃ mm : Nat, 1 ≤ mm ∧ mm ≤ step ∧ a + mm ≤ n ∧ (k + 1 < bs.length → mm = step) ∧ bs[k] = blkOf a ((l.drop a).take mm) ∧ Pos step n bs.length (k + 1) (a + mm) := by
  obtain rfl := hp.1 hk
  have lo : bs.length * step < n + step := by exact_mod_cast h.lo
  have hi : n ≤ bs.length * step := by exact_mod_cast h.hi
  have e1 : (k + 1) * step ≤ bs.length * step := Nat.mul_le_mul_right _ hk
  have e2 : (k + 1) * step = k * step + step := by rw [Nat.add_mul, Nat.one_mul]
  have e3 : k + 1 < bs.length → k * step + step + step ≤ bs.length * step := fun hk2 => by
    have := Nat.mul_le_mul_right step (show k + 2 ≤ bs.length by omega)
    rw [Nat.add_mul] at this
    omega
  refine ⟨min step (n - k * step), by omega, by omega, by omega, fun hk2 => by have := e3 hk2; omega, ?_, fun hk2 => by have := e3 hk2; omega, fun hk2 => ?_⟩
  · have := h.at_ k hk
    rw [List.getElem?_eq_getElem hk] at this
    exact Option.some.inj this
  · rw [show bs.length = k + 1 by omega] at hi
    omega
theorem Pos.le {step n N k a : Nat} (h : Pos step n N k a) (hk : N ≤ k) : a = n := h.2 hk
end QryP
end Go.Proofs.Ytedcnoajadnhnaa
