
/-
  The plain law of QueryFinds: by the blocks of a row just what is filtered is found; the blocks can be put.
-/
import Derived.Test.YtedcnoajadnhnaaBlkPlain2
import Derived.Test.YtedcnoajadnhnaaQryPlain2
import Derived.Test.YtedcnoajadnhnaaIdxPlain
namespace Go.Proofs.Ytedcnoajadnhnaa
open Go.RowKit
set_option linter.unusedVariables false
set_option linter.unusedSimpArgs false
namespace QryP
theorem gath_full {q : Qy} {T : List Ev} (h : q.2.2.2.2.2.2 ≤ (T.length : Int)) : ∀ r, gath q r T = (T, 0)
  | [] => rfl
  | x :: r => by rw [gath, if_pos h]
theorem gath_go {q : Qy} {T : List Ev} (h : ¬ q.2.2.2.2.2.2 ≤ (T.length : Int)) (x : Ev) (r : List Ev) : gath q (x :: r) T = ((gath q r (if fit q x = true then T ++ [x] else T)).1, (gath q r (if fit q x = true then T ++ [x] else T)).2 + 1) := by rw [gath, if_neg h]
theorem gath_cat (q : Qy) : ∀ (s t T : List Ev), (gath q (s ++ t) T).1 = (gath q t (gath q s T).1).1
  | [], t, T => rfl
  | x :: s, t, T => by
    by_cases h : q.2.2.2.2.2.2 ≤ (T.length : Int)
    · rw [gath_full h, gath_full h, gath_full h]
    · rw [List.cons_append, gath_go h, gath_go h]
      exact gath_cat q s t _
theorem gath_cnt (q : Qy) : ∀ (s T : List Ev), (gath q s T).2 ≤ s.length ∧ (gath q s T).1.length ≤ T.length + (gath q s T).2
  | [], T => ⟨Nat.le_refl _, Nat.le_refl _⟩
  | x :: s, T => by
    by_cases h : q.2.2.2.2.2.2 ≤ (T.length : Int)
    · rw [gath_full h]; exact ⟨Nat.zero_le _, Nat.le_refl _⟩
    · rw [gath_go h]
      by_cases hf : fit q x = true
      · rw [if_pos hf]
        have := gath_cnt q s (T ++ [x])
        rw [List.length_append, List.length_singleton] at this
        rw [List.length_cons]
        exact ⟨Nat.succ_le_succ this.1, by have := this.2; dsimp only; omega⟩
      · rw [if_neg hf]
        have := gath_cnt q s T
        rw [List.length_cons]
        exact ⟨Nat.succ_le_succ this.1, by have := this.2; dsimp only; omega⟩
theorem gath_none (q : Qy) : ∀ (s T : List Ev), (∀ x ∈ s, fit q x = false) → (gath q s T).1 = T
  | [], T, _ => rfl
  | x :: s, T, h => by
    by_cases h0 : q.2.2.2.2.2.2 ≤ (T.length : Int)
    · rw [gath_full h0]
    · rw [gath_go h0, if_neg (by rw [h x (List.mem_cons_self ..)]; decide)]
      exact gath_none q s T (fun y hy => h y (List.mem_cons_of_mem _ hy))
theorem bl_each {l : List Ev} {step n : Nat} {bs : List Bk} (h : Bl l step n bs) (hs : 1 ≤ step) (hn : n = l.length) {k : Nat} (hk : k < bs.length) :
    ∃ a mm : Nat, 1 ≤ mm ∧ a + mm ≤ n ∧ bs[k] = blkOf a ((l.drop a).take mm) := by
  obtain ⟨mm, m1, -, m3, -, hb, -⟩ := Pos.blk h hs hn hk (a := k * step) ⟨fun _ => rfl, fun h => absurd hk (by omega)⟩
  exact ⟨k * step, mm, m1, m3, hb⟩
theorem bl_few {l : List Ev} {step n : Nat} {bs : List Bk} (h : Bl l step n bs) (hs : 1 ≤ step) : bs.length ≤ n := by
  have lo : bs.length * step < n + step := by exact_mod_cast h.lo
  rcases Nat.lt_or_ge n bs.length with hc | hc
  · exfalso
    have e1 : (n + 1) * step ≤ bs.length * step := Nat.mul_le_mul_right _ hc
    have e2 : n * 1 ≤ n * step := Nat.mul_le_mul_left _ hs
    rw [Nat.add_mul] at e1
    omega
  · exact hc
theorem cover_bl {l : List Ev} {step n : Nat} {bs : List Bk} (h : Bl l step n bs) (hs : 1 ≤ step) (hn : n = l.length) : ∀ (j k a : Nat), bs.length = k + j → Pos step n bs.length k a → coverN n a (bs.drop k) = true
  | 0, k, a, hj, hp => by
    rw [List.drop_eq_nil_of_le (by omega), hp.2 (by omega)]; simp [coverN]
  | j + 1, k, a, hj, hp => by
    have hk : k < bs.length := by omega
    obtain ⟨mm, m1, m2, m3, -, hb, hp'⟩ := Pos.blk h hs hn hk hp
    have ih := cover_bl h hs hn j (k + 1) (a + mm) (by omega) hp'
    have hl : ((l.drop a).take mm).length = mm := by rw [List.length_take, List.length_drop]; omega
    rw [List.drop_eq_getElem_cons hk, hb]
    show (decide ((a : Int) = a) && (decide (1 ≤ (((l.drop a).take mm).length : Int)) && (decide ((((l.drop a).take mm).length : Int) ≤ (n : Int) - a) && coverN n ((a : Int) + (((l.drop a).take mm).length : Int)) (bs.drop (k + 1))))) = true
    rw [hl, show (a : Int) + (mm : Int) = ((a + mm : Nat) : Int) by omega, ih]
    simp only [Bool.and_true, Bool.and_eq_true, decide_eq_true_eq]
    exact ⟨trivial, by omega, by omega⟩
theorem find_bl {q : Qy} {l : List Ev} {step n : Nat} {bs : List Bk} (hE : ∀ x ∈ l, EvP.EvB x) (hr : EvP.runB l = true) (h : Bl l step n bs) (hs : 1 ≤ step) (hn : n = l.length) : ∀ (j k a : Nat) (T : List Ev) (c : Nat), bs.length = k + j → Pos step n bs.length k a → T = (gath q (l.take a) []).1 → T.length ≤ c → c ≤ a →
    ∃ c', findN q l (bs.drop k) (T, c) = ((gath q l []).1, c') ∧ (gath q l []).1.length ≤ c' ∧ c' ≤ n
  | 0, k, a, T, c, hj, hp, hT, h1, h2 => by
    obtain rfl := hp.2 (by omega)
    rw [hn, List.take_length] at hT
    rw [List.drop_eq_nil_of_le (by omega), ← hT]
    exact ⟨c, rfl, h1, h2⟩
  | j + 1, k, a, T, c, hj, hp, hT, h1, h2 => by
    have hk : k < bs.length := by omega
    obtain ⟨mm, m1, m2, m3, -, hb, hp'⟩ := Pos.blk h hs hn hk hp
    have hl : ((l.drop a).take mm).length = mm := by rw [List.length_take, List.length_drop]; omega
    have e : (gath q (l.take (a + mm)) []).1 = (gath q ((l.drop a).take mm) T).1 := by rw [List.take_add, gath_cat, ← hT]
    rw [List.drop_eq_getElem_cons hk, hb, findN]
    have e1 : (blkOf (a : Int) ((l.drop a).take mm)).1.toNat = a := Int.toNat_natCast a
    have e2 : (blkOf (a : Int) ((l.drop a).take mm)).2.1.toNat = mm := by show ((((l.drop a).take mm).length : Int)).toNat = mm; rw [hl]; exact Int.toNat_natCast mm
    rw [e1, e2]
    by_cases hm : may q (blkOf (a : Int) ((l.drop a).take mm)) = true
    · rw [if_pos hm]
      have hc := gath_cnt q ((l.drop a).take mm) T
      rw [hl] at hc
      exact find_bl hE hr h hs hn j (k + 1) (a + mm) _ _ (by omega) hp' e.symm (by have := hc.2; dsimp only; omega) (by have := hc.1; dsimp only; omega)
    · rw [if_neg hm]
      have hno : ∀ x ∈ (l.drop a).take mm, fit q x = false := by
        intro x hx
        obtain ⟨i, hi, rfl⟩ := List.mem_iff_getElem.1 hx
        cases hf : fit q ((l.drop a).take mm)[i] with
        | false => rfl
        | true =>
          exfalso
          apply hm
          rw [hl] at hi
          refine may_ev hE hr (k := a + i) (by omega) (by omega) (by omega) ?_
          rw [List.getElem_take, List.getElem_drop] at hf
          exact hf
      rw [gath_none q _ T hno] at e
      exact find_bl hE hr h hs hn j (k + 1) (a + mm) T c (by omega) hp' e.symm h1 (by omega)
theorem find_all {q : Qy} {l : List Ev} {step n : Nat} {bs : List Bk} (hE : ∀ x ∈ l, EvP.EvB x) (hr : EvP.runB l = true) (h : Bl l step n bs) (hs : 1 ≤ step) (hn : n = l.length) :
    ∃ c : Nat, find q l bs = ((filt q l, c), 0) ∧ (filt q l).length ≤ c ∧ c ≤ n := by
  have hc : cover (l.length : Int) bs = true := by
    have := cover_bl h hs hn bs.length 0 0 (by omega) (Pos.start h)
    rw [← hn]; exact this
  obtain ⟨c, hf, h1, h2⟩ := find_bl (q := q) hE hr h hs hn bs.length 0 0 [] 0 (by omega) (Pos.start h) rfl (Nat.le_refl _) (Nat.le_refl _)
  refine ⟨c, ?_, h1, h2⟩
  unfold find
  rw [if_pos hc]
  exact congrArg (fun x => (x, (0 : Int))) hf
theorem run_is {l : List Ev} (h : EvP.runB l = true) : ∀ x ∈ l, EvP.isB x = true := by
  intro x hx
  obtain ⟨i, hi, rfl⟩ := List.mem_iff_getElem.1 hx
  have := (EvP.okAt_iff.1 (EvP.runB_iff.1 h i hi)).1
  rw [List.getD_eq_getElem?_getD, List.getElem?_eq_getElem hi] at this
  exact this
theorem bl_fit {l : List Ev} {step n : Nat} {bs : List Bk} (hr : EvP.runB l = true) (h : Bl l step n bs) (hs : 1 ≤ step) (hn : n = l.length) : bs.all IdxP.fitB = true := by
  rw [List.all_eq_true]
  intro b hb
  obtain ⟨k, hk, rfl⟩ := List.mem_iff_getElem.1 hb
  obtain ⟨a, mm, m1, m3, e⟩ := bl_each h hs hn hk
  have hne : (l.drop a).take mm ≠ [] := by
    intro h0
    have : ((l.drop a).take mm).length = mm := by rw [List.length_take, List.length_drop]; omega
    rw [h0] at this; simp at this; omega
  have hi := run_is hr
  have hm : ∀ x ∈ (l.drop a).take mm, 0 ≤ x.2.1 ∧ x.2.1 ≤ 1099511627776 := fun x hx => by
    have := hi x (List.mem_of_mem_drop (List.mem_of_mem_take hx))
    obtain ⟨q, t, p, k, a, b⟩ := x
    have := EvP.isB_iff.1 this
    exact ⟨this.2.2.1, this.2.2.2.1⟩
  obtain ⟨x, hx, ex⟩ := lowT_mem hne
  obtain ⟨y, hy, ey⟩ := highT_mem hne
  rw [e, IdxP.fit_iff]
  have := hm x hx
  have := hm y hy
  refine ⟨Int.natCast_nonneg _, Int.natCast_nonneg _, ?_, ?_⟩
  · show 0 ≤ lowT _ ∧ lowT _ ≤ _
    omega
  · show 0 ≤ highT _ ∧ highT _ ≤ _
    omega
theorem bl_b {l : List Ev} {step n : Nat} {bs : List Bk} (hE : ∀ x ∈ l, EvP.EvB x) (hl : n ≤ 1000000) (h : Bl l step n bs) (hs : 1 ≤ step) (hn : n = l.length) : ∀ b ∈ bs, BkB b := by
  intro b hb
  obtain ⟨k, hk, rfl⟩ := List.mem_iff_getElem.1 hb
  obtain ⟨a, mm, m1, m3, e⟩ := bl_each h hs hn hk
  rw [e]
  exact blk_b (fun x hx => hE x (List.mem_of_mem_drop (List.mem_of_mem_take hx))) (by omega) (by rw [List.length_take, List.length_drop]; omega)
theorem put_bl {l : List Ev} {step n : Nat} {bs : List Bk} (hr : EvP.runB l = true) (h : Bl l step n bs) (hs : 1 ≤ step) (hn : n = l.length) (hl : n ≤ 4096) : ∃ t, IdxP.putI bs = (t, 0) := by
  have := bl_few h hs
  exact ⟨_, by unfold IdxP.putI; rw [if_neg (by omega), if_pos (bl_fit hr h hs hn)]⟩
end QryP
end Go.Proofs.Ytedcnoajadnhnaa
