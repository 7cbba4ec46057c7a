
/-
  Layer 14, plain: blocks as bytes, and back.
-/
import Derived.Test.YtedcnoajadnhnaaQryPlain
import Derived.Test.YtedcnoajadnhnaaWirePlain
namespace Go.Proofs.Ytedcnoajadnhnaa
open Go.RowKit
set_option linter.unusedVariables false
namespace IdxP
abbrev Bk := QryP.Bk
def mt : Int := 1099511627776
def fitB (b : Bk) : Bool := decide (0 ≤ b.1) && (decide (0 ≤ b.2.1) && (decide (0 ≤ b.2.2.2.1 ∧ b.2.2.2.1 ≤ 1099511627776) && decide (0 ≤ b.2.2.2.2.1 ∧ b.2.2.2.2.1 ≤ 1099511627776)))
/-- A block's numbers. -/
def nsOf (b : Bk) : List Nat := [b.1.toNat, b.2.1.toNat, b.2.2.1.toNat, b.2.2.2.1.toNat, b.2.2.2.2.1.toNat, b.2.2.2.2.2.1.toNat, b.2.2.2.2.2.2.toNat]
def putB (b : Bk) : List UInt8 := (nsOf b).flatMap WireP.putL
def putI (l : List Bk) : List UInt8 × Int := if 4096 < l.length then ([], 2) else if l.all fitB = true then (WireP.putL l.length ++ l.flatMap putB, 0) else ([], 1)
def takes : Nat → List UInt8 → List Nat × (List UInt8 × Int)
  | 0, s => ([], s, 0)
  | k + 1, s => if (WireP.takeL s).2.2 ≠ 0 then ([], [], (WireP.takeL s).2.2) else ((WireP.takeL s).1 :: (takes k (WireP.takeL s).2.1).1, (takes k (WireP.takeL s).2.1).2)
def blkN (ns : List Nat) : Bk := ((ns.getD 0 0 : Nat), (ns.getD 1 0 : Nat), (ns.getD 2 0 : Nat), (ns.getD 3 0 : Nat), (ns.getD 4 0 : Nat), (ns.getD 5 0 : Nat), (ns.getD 6 0 : Nat))
def bigN (ns : List Nat) : Bool := decide (9223372036854775807 < ns.getD 0 0 ∨ 9223372036854775807 < ns.getD 1 0 ∨ 9223372036854775807 < ns.getD 3 0 ∨ 9223372036854775807 < ns.getD 4 0)
def bOf (ns : List Nat) (r : List UInt8) : Bk × (List UInt8 × Int) := if bigN ns = true then (QryP.zeroB, [], 3) else if fitB (blkN ns) = true then (blkN ns, r, 0) else (QryP.zeroB, [], 3)
def getB (s : List UInt8) : Bk × (List UInt8 × Int) := if (takes 7 s).2.2 ≠ 0 then (QryP.zeroB, [], (takes 7 s).2.2) else bOf (takes 7 s).1 (takes 7 s).2.1
def gets : Nat → List UInt8 → List Bk × (List UInt8 × Int)
  | 0, s => ([], s, 0)
  | k + 1, s => if (getB s).2.2 ≠ 0 then ([], [], (getB s).2.2) else ((getB s).1 :: (gets k (getB s).2.1).1, (gets k (getB s).2.1).2)
def getI (s : List UInt8) : List Bk × Int :=
  if (WireP.takeL s).2.2 ≠ 0 then ([], (WireP.takeL s).2.2) else if 4096 < (WireP.takeL s).1 then ([], 2)
  else if (gets (WireP.takeL s).1 (WireP.takeL s).2.1).2.2 ≠ 0 then ([], (gets (WireP.takeL s).1 (WireP.takeL s).2.1).2.2)
  else if (gets (WireP.takeL s).1 (WireP.takeL s).2.1).2.1 ≠ [] then ([], 3) else ((gets (WireP.takeL s).1 (WireP.takeL s).2.1).1, 0)

theorem takes_put : ∀ (ns : List Nat) (r : List UInt8), (∀ n ∈ ns, n < 18446744073709551616) → takes ns.length (ns.flatMap WireP.putL ++ r) = (ns, r, 0)
  | [], r, _ => rfl
  | n :: ns, r, h => by
    have e := WireP.takeL_put n (ns.flatMap WireP.putL ++ r) (h n (by simp))
    have ih := takes_put ns r (fun m hm => h m (by simp [hm]))
    rw [List.flatMap_cons, List.append_assoc, List.length_cons, takes, e]
    simp only [ne_eq, not_true_eq_false, if_false]
    rw [ih]
theorem takes_back : ∀ (k : Nat) (s : List UInt8), (takes k s).2.2 = 0 → s = (takes k s).1.flatMap WireP.putL ++ (takes k s).2.1 ∧ (takes k s).1.length = k ∧ ∀ n ∈ (takes k s).1, n < 18446744073709551616
  | 0, s, _ => ⟨rfl, rfl, by simp [takes]⟩
  | k + 1, s, h => by
    rw [takes] at h ⊢
    by_cases c : (WireP.takeL s).2.2 ≠ 0
    · rw [if_pos c] at h
      exact absurd h c
    · rw [if_neg c] at h ⊢
      obtain ⟨h1, h2, h3⟩ := takes_back k _ h
      obtain ⟨b1, b2⟩ := WireP.takeL_back s (WireP.takeL s).2.1 (WireP.takeL s).1 (by rw [← Classical.not_not.1 c])
      dsimp only
      refine ⟨?_, by rw [List.length_cons, h2], fun n hn => ?_⟩
      · rw [List.flatMap_cons, List.append_assoc, ← h1, b1]
      · rcases List.mem_cons.1 hn with rfl | hn
        · exact b2
        · exact h3 n hn
def BkB (b : Bk) : Prop := (-9223372036854775808 ≤ b.1 ∧ b.1 ≤ 9223372036854775807) ∧ (-9223372036854775808 ≤ b.2.1 ∧ b.2.1 ≤ 9223372036854775807) ∧ (0 ≤ b.2.2.1 ∧ b.2.2.1 ≤ 18446744073709551615) ∧ (-9223372036854775808 ≤ b.2.2.2.1 ∧ b.2.2.2.1 ≤ 9223372036854775807) ∧ (-9223372036854775808 ≤ b.2.2.2.2.1 ∧ b.2.2.2.2.1 ≤ 9223372036854775807) ∧ (0 ≤ b.2.2.2.2.2.1 ∧ b.2.2.2.2.2.1 ≤ 18446744073709551615) ∧ (0 ≤ b.2.2.2.2.2.2 ∧ b.2.2.2.2.2.2 ≤ 18446744073709551615)
theorem fit_iff {b : Bk} : fitB b = true ↔ 0 ≤ b.1 ∧ 0 ≤ b.2.1 ∧ (0 ≤ b.2.2.2.1 ∧ b.2.2.2.1 ≤ 1099511627776) ∧ (0 ≤ b.2.2.2.2.1 ∧ b.2.2.2.2.1 ≤ 1099511627776) := by
  unfold fitB; simp only [Bool.and_eq_true, decide_eq_true_eq]
theorem blk_ns {b : Bk} (h : BkB b) (hf : fitB b = true) : blkN (nsOf b) = b := by
  obtain ⟨b0, b1, b2, b3, b4, b5, b6⟩ := b
  obtain ⟨f1, f2, f3, f4⟩ := fit_iff.1 hf
  obtain ⟨h1, h2, h3, h4, h5, h6, h7⟩ := h
  dsimp only at f1 f2 f3 f4 h1 h2 h3 h4 h5 h6 h7
  unfold blkN nsOf
  simp only [List.getD_cons_zero, List.getD_cons_succ]
  rw [Int.toNat_of_nonneg f1, Int.toNat_of_nonneg f2, Int.toNat_of_nonneg h3.1, Int.toNat_of_nonneg f3.1, Int.toNat_of_nonneg f4.1, Int.toNat_of_nonneg h6.1, Int.toNat_of_nonneg h7.1]
theorem getB_put {b : Bk} (h : BkB b) (hf : fitB b = true) (r : List UInt8) : getB (putB b ++ r) = (b, r, 0) := by
  obtain ⟨f1, f2, f3, f4⟩ := fit_iff.1 hf
  have h' := h
  obtain ⟨h1, h2, h3, h4, h5, h6, h7⟩ := h'
  have e : takes 7 (putB b ++ r) = (nsOf b, r, 0) := by
    refine takes_put (nsOf b) r (fun n hn => ?_)
    simp only [nsOf, List.mem_cons, List.not_mem_nil, or_false] at hn
    omega
  unfold getB
  rw [e]
  simp only [ne_eq, not_true_eq_false, if_false]
  unfold bOf
  rw [if_neg (by
    unfold bigN nsOf
    simp only [List.getD_cons_zero, List.getD_cons_succ, decide_eq_true_eq]
    omega), blk_ns h hf, if_pos hf]
theorem getB_back {s : List UInt8} (h : (getB s).2.2 = 0) : fitB (getB s).1 = true ∧ BkB (getB s).1 ∧ s = putB (getB s).1 ++ (getB s).2.1 := by
  unfold getB at h ⊢
  by_cases c : (takes 7 s).2.2 ≠ 0
  · rw [if_pos c] at h; exact absurd h c
  rw [if_neg c] at h ⊢
  obtain ⟨h1, h2, h3⟩ := takes_back 7 s (Classical.not_not.1 c)
  generalize (takes 7 s).1 = ns at h h1 h2 h3 ⊢
  generalize (takes 7 s).2.1 = r at h h1 ⊢
  match ns, h2 with
  | [n0, n1, n2, n3, n4, n5, n6], _ =>
    unfold bOf at h ⊢
    by_cases c1 : bigN [n0, n1, n2, n3, n4, n5, n6] = true
    · rw [if_pos c1] at h; cases h
    rw [if_neg c1] at h ⊢
    by_cases c2 : fitB (blkN [n0, n1, n2, n3, n4, n5, n6]) = true
    · rw [if_pos c2] at h ⊢
      have q0 := h3 n0 (by simp); have q1 := h3 n1 (by simp); have q2 := h3 n2 (by simp); have q3 := h3 n3 (by simp)
      have q4 := h3 n4 (by simp); have q5 := h3 n5 (by simp); have q6 := h3 n6 (by simp)
      unfold bigN at c1
      simp only [List.getD_cons_zero, List.getD_cons_succ, decide_eq_true_eq] at c1
      refine ⟨c2, ?_, ?_⟩
      · unfold BkB blkN
        simp only [List.getD_cons_zero, List.getD_cons_succ]
        refine ⟨?_, ?_, ?_, ?_, ?_, ?_, ?_⟩ <;> omega
      · rw [h1]
        unfold putB nsOf blkN
        simp only [List.getD_cons_zero, List.getD_cons_succ, Int.toNat_natCast]
    · rw [if_neg c2] at h; cases h
theorem getB_none {s : List UInt8} (h : (getB s).2.2 ≠ 0) : (getB s).1 = QryP.zeroB ∧ (getB s).2.1 = [] := by
  unfold getB at h ⊢
  by_cases c : (takes 7 s).2.2 ≠ 0
  · rw [if_pos c]; exact ⟨rfl, rfl⟩
  rw [if_neg c] at h ⊢
  unfold bOf at h ⊢
  by_cases c1 : bigN (takes 7 s).1 = true
  · rw [if_pos c1]; exact ⟨rfl, rfl⟩
  rw [if_neg c1] at h ⊢
  by_cases c2 : fitB (blkN (takes 7 s).1) = true
  · rw [if_pos c2] at h; exact absurd rfl h
  · rw [if_neg c2]; exact ⟨rfl, rfl⟩
theorem gets_put : ∀ (l : List Bk) (r : List UInt8), (∀ b ∈ l, BkB b) → (∀ b ∈ l, fitB b = true) → gets l.length (l.flatMap putB ++ r) = (l, r, 0)
  | [], r, _, _ => rfl
  | b :: l, r, h, hf => by
    have e := getB_put (h b (by simp)) (hf b (by simp)) (l.flatMap putB ++ r)
    have ih := gets_put l r (fun x hx => h x (by simp [hx])) (fun x hx => hf x (by simp [hx]))
    rw [List.flatMap_cons, List.append_assoc, List.length_cons, gets, e]
    simp only [ne_eq, not_true_eq_false, if_false]
    rw [ih]
theorem gets_back : ∀ (k : Nat) (s : List UInt8), (gets k s).2.2 = 0 → s = (gets k s).1.flatMap putB ++ (gets k s).2.1 ∧ (gets k s).1.length = k ∧ ∀ b ∈ (gets k s).1, fitB b = true ∧ BkB b
  | 0, s, _ => ⟨rfl, rfl, by simp [gets]⟩
  | k + 1, s, h => by
    rw [gets] at h ⊢
    by_cases c : (getB s).2.2 ≠ 0
    · rw [if_pos c] at h; exact absurd h c
    · rw [if_neg c] at h ⊢
      obtain ⟨h1, h2, h3⟩ := gets_back k _ h
      obtain ⟨b1, b2, b3⟩ := getB_back (Classical.not_not.1 c)
      dsimp only
      refine ⟨?_, by rw [List.length_cons, h2], fun b hb => ?_⟩
      · rw [List.flatMap_cons, List.append_assoc, ← h1]; exact b3
      · rcases List.mem_cons.1 hb with rfl | hb
        · exact ⟨b1, b2⟩
        · exact h3 b hb
theorem get_put {l : List Bk} {t : List UInt8} (hb : ∀ b ∈ l, BkB b) (h : putI l = (t, 0)) : getI t = (l, 0) := by
  unfold putI at h
  by_cases c1 : 4096 < l.length
  · rw [if_pos c1] at h; cases h
  rw [if_neg c1] at h
  by_cases c2 : l.all fitB = true
  · rw [if_pos c2] at h
    injection h with h _
    subst h
    have e := WireP.takeL_put l.length (l.flatMap putB) (by omega)
    have e2 := gets_put l [] hb (fun b hb => List.all_eq_true.1 c2 b hb)
    rw [List.append_nil] at e2
    unfold getI
    rw [e]
    simp only [ne_eq, not_true_eq_false, if_false]
    rw [if_neg c1, e2]
    simp
  · rw [if_neg c2] at h; cases h
theorem put_get {s : List UInt8} {l : List Bk} (h : getI s = (l, 0)) : putI l = (s, 0) ∧ ∀ b ∈ l, BkB b := by
  unfold getI at h
  by_cases c1 : (WireP.takeL s).2.2 ≠ 0
  · rw [if_pos c1] at h; exact absurd (congrArg (·.2) h) c1
  rw [if_neg c1] at h
  by_cases c2 : 4096 < (WireP.takeL s).1
  · rw [if_pos c2] at h; cases h
  rw [if_neg c2] at h
  by_cases c3 : (gets (WireP.takeL s).1 (WireP.takeL s).2.1).2.2 ≠ 0
  · rw [if_pos c3] at h; exact absurd (congrArg (·.2) h) c3
  rw [if_neg c3] at h
  by_cases c4 : (gets (WireP.takeL s).1 (WireP.takeL s).2.1).2.1 ≠ []
  · rw [if_pos c4] at h; cases h
  rw [if_neg c4] at h
  injection h with h _
  obtain ⟨g1, g2, g3⟩ := gets_back _ _ (Classical.not_not.1 c3)
  rw [Classical.not_not.1 c4, List.append_nil, h] at g1
  rw [h] at g2 g3
  obtain ⟨b1, b2⟩ := WireP.takeL_back s (WireP.takeL s).2.1 (WireP.takeL s).1 (by rw [← Classical.not_not.1 c1])
  refine ⟨?_, fun b hb => (g3 b hb).2⟩
  unfold putI
  rw [if_neg (by omega), if_pos (List.all_eq_true.2 (fun b hb => (g3 b hb).1)), g2, ← g1, b1]
theorem get_none {s : List UInt8} (h : (getI s).2 ≠ 0) : (getI s).1 = [] := by
  unfold getI at h ⊢
  repeat' split
  all_goals (first | rfl | skip)
  rename_i c1 c2 c3 c4
  rw [if_neg c1, if_neg c2, if_neg c3, if_neg c4] at h
  exact absurd rfl h
theorem put_none {l : List Bk} (h : (putI l).2 ≠ 0) : (putI l).1 = [] := by
  unfold putI at h ⊢
  repeat' split
  all_goals (first | rfl | skip)
  rename_i c1 c2
  rw [if_neg c1, if_pos c2] at h
  exact absurd rfl h
end IdxP
end Go.Proofs.Ytedcnoajadnhnaa
