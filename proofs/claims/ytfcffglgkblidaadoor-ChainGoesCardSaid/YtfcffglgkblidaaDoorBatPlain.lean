
/-
  Layer 5, plain: a batch as bytes, and back.
-/
import Derived.Test.YtfcffglgkblidaaDoorEvPlain
import Derived.Test.YtfcffglgkblidaaDoorCrcWalks
namespace Go.Proofs.YtfcffglgkblidaaDoor
set_option linter.unusedVariables false
set_option linter.unusedSimpArgs false
namespace BatP
abbrev Ev := EvP.Ev
/-- A batch: the first number, the events, the sum ahead (32 bytes). -/
abbrev Ba := Int × List Ev × List UInt8
def zeros : List UInt8 := List.replicate 32 0
def zeroB : Ba := (0, [], zeros)
def isB (b : Ba) : Bool := decide (1 ≤ b.2.1.length) && (decide (b.2.1.length ≤ 256) && (EvP.runB b.2.1 && decide ((b.2.1.getD 0 EvP.zero).1 = b.1)))
def textL (t : List UInt8) : List UInt8 := WireP.putL t.length ++ t
def evsL (l : List Ev) : List UInt8 := l.flatMap (fun x => textL (EvP.putE x))
def bodyL (b : Ba) : List UInt8 := b.2.2 ++ (WireP.putL b.1.toNat ++ (WireP.putL b.2.1.length ++ evsL b.2.1))
def frameL (t : List UInt8) : List UInt8 := 66 :: (WireP.fixedL t.length 4 ++ t)
def sumL (t : List UInt8) : List UInt8 := t ++ WireP.fixedL (CrcP.ofL t).toNat 4
def outL (b : Ba) : List UInt8 := sumL (frameL (bodyL b))
def putB (b : Ba) : List UInt8 × Int := if isB b = true then (outL b, 0) else ([], 1)
/-- A text in front. -/
def takeT (l : List UInt8) : List UInt8 × (List UInt8 × Int) :=
  if (WireP.takeL l).2.2 ≠ 0 then ([], [], (WireP.takeL l).2.2)
  else if 65536 < (WireP.takeL l).1 then ([], [], 2)
  else if (WireP.takeL l).2.1.length < (WireP.takeL l).1 then ([], [], 4)
  else ((WireP.takeL l).2.1.take (WireP.takeL l).1, (WireP.takeL l).2.1.drop (WireP.takeL l).1, 0)
/-- An event in front. -/
def evT (l : List UInt8) : Option (Ev × List UInt8) :=
  if (takeT l).2.2 ≠ 0 then none else if (EvP.getE (takeT l).1).2 ≠ 0 then none else some ((EvP.getE (takeT l).1).1, (takeT l).2.1)
def evsT : Nat → List UInt8 → Option (List Ev × List UInt8)
  | 0, s => some ([], s)
  | k + 1, s => match evT s with
    | none => none
    | some (x, r) => match evsT k r with
      | none => none
      | some (l, r') => some (x :: l, r')
/-- What stands behind the sum ahead and the two numbers. -/
def readE (first : Int) (many : Nat) (prev rest : List UInt8) : Option Ba :=
  if many < 1 ∨ 256 < many then none else
  match evsT many rest with
  | none => none
  | some (l, r) => if r = [] ∧ isB (first, l, prev) = true then some (first, l, prev) else none
def readB (s : List UInt8) : Option Ba :=
  if s.length < 32 then none
  else if (WireP.takeL (s.drop 32)).2.2 ≠ 0 then none
  else if (WireP.takeL (WireP.takeL (s.drop 32)).2.1).2.2 ≠ 0 then none
  else readE ((WireP.takeL (s.drop 32)).1 : Int) (WireP.takeL (WireP.takeL (s.drop 32)).2.1).1 (s.take 32) (WireP.takeL (WireP.takeL (s.drop 32)).2.1).2.1
def noB (e : Int) : (Ba × Nat) × Int := ((zeroB, 0), e)
def lenOf (s : List UInt8) : Nat := WireP.numOf ((s.drop 1).take 4)
def getB (s : List UInt8) : (Ba × Nat) × Int :=
  if s = [] then noB 4
  else if s.getD 0 0 ≠ 66 then noB 3
  else if s.length < 5 then noB 4
  else if 16384 < lenOf s then noB 2
  else if s.length < 5 + lenOf s + 4 then noB 4
  else if WireP.numOf ((s.drop (5 + lenOf s)).take 4) ≠ (CrcP.ofL (s.take (5 + lenOf s))).toNat then noB 10
  else match readB ((s.take (5 + lenOf s)).drop 5) with
    | none => noB 3
    | some b => ((b, lenOf s + 9), 0)

theorem run_is {l : List Ev} (h : EvP.runB l = true) : ∀ x ∈ l, EvP.isB x = true := by
  intro x hx
  obtain ⟨i, hi, rfl⟩ := List.mem_iff_getElem.1 hx
  have := (EvP.okAt_iff.1 (EvP.runB_iff.1 h i hi)).1
  rw [List.getD_eq_getElem?_getD, List.getElem?_eq_getElem hi] at this
  exact this
theorem isB_iff {b : Ba} : isB b = true ↔ 1 ≤ b.2.1.length ∧ b.2.1.length ≤ 256 ∧ EvP.runB b.2.1 = true ∧ (b.2.1.getD 0 EvP.zero).1 = b.1 := by
  unfold isB
  simp only [Bool.and_eq_true, decide_eq_true_eq]
theorem takeT_put (t r : List UInt8) (h : t.length ≤ 65536) : takeT (textL t ++ r) = (t, r, 0) := by
  have ht : WireP.takeL (textL t ++ r) = (t.length, t ++ r, 0) := by
    unfold textL; rw [List.append_assoc]; exact WireP.takeL_put _ _ (by omega)
  unfold takeT
  rw [ht, if_neg (by simp), if_neg (by show ¬ 65536 < t.length; omega), if_neg (by show ¬ (t ++ r).length < t.length; rw [List.length_append]; omega)]
  rw [List.take_left, List.drop_left]
theorem takeT_back {l t r : List UInt8} (h : takeT l = (t, r, 0)) : l = textL t ++ r ∧ t.length ≤ 65536 := by
  unfold takeT at h
  split at h
  · rename_i h0
    exact absurd (congrArg (fun x => x.2.2) h) h0
  · rename_i h0
    split at h
    · have h9 : (2 : Int) = 0 := congrArg (fun x => x.2.2) h
      omega
    · rename_i h1
      split at h
      · have h9 : (4 : Int) = 0 := congrArg (fun x => x.2.2) h
        omega
      · rename_i h2
        have h0' : (WireP.takeL l).2.2 = 0 := Decidable.not_not.1 h0
        obtain ⟨hp, _⟩ := WireP.takeL_back l (WireP.takeL l).2.1 (WireP.takeL l).1 (by rw [← h0'])
        have e1 : (WireP.takeL l).2.1.take (WireP.takeL l).1 = t := congrArg (fun x => x.1) h
        have e2 : (WireP.takeL l).2.1.drop (WireP.takeL l).1 = r := congrArg (fun x => x.2.1) h
        have hl : t.length = (WireP.takeL l).1 := by rw [← e1, List.length_take]; omega
        refine ⟨?_, by omega⟩
        unfold textL
        rw [hl, List.append_assoc, ← e1, ← e2, List.take_append_drop]
        exact hp.symm
theorem evT_put {x : Ev} (hx : EvP.isB x = true) (hq : 0 ≤ x.1 ∧ x.1 ≤ 18446744073709551615) (r : List UInt8) : evT (textL (EvP.putE x) ++ r) = some (x, r) := by
  have hg := EvP.get_put hx hq []
  rw [List.append_nil, if_pos rfl] at hg
  have hl := EvP.put_len hx hq
  unfold evT
  rw [takeT_put _ _ (by omega)]
  rw [if_neg (by simp), if_neg (by rw [hg]; simp), hg]
theorem evT_back {s r : List UInt8} {x : Ev} (h : evT s = some (x, r)) : s = textL (EvP.putE x) ++ r ∧ EvP.isB x = true ∧ 0 ≤ x.1 ∧ x.1 ≤ 18446744073709551615 := by
  unfold evT at h
  split at h
  · cases h
  · rename_i h0
    split at h
    · cases h
    · rename_i h1
      have h0' : (takeT s).2.2 = 0 := Decidable.not_not.1 h0
      have h1' : (EvP.getE (takeT s).1).2 = 0 := Decidable.not_not.1 h1
      have h2 := Option.some.inj h
      have ex : (EvP.getE (takeT s).1).1 = x := congrArg (·.1) h2
      have er : (takeT s).2.1 = r := congrArg (·.2) h2
      obtain ⟨g1, g2, g3, g4⟩ := EvP.put_get (s := (takeT s).1) (x := x) (by rw [← ex, ← h1'])
      obtain ⟨t1, t2⟩ := takeT_back (l := s) (t := (takeT s).1) (r := r) (by rw [← er, ← h0'])
      rw [← g2] at t1
      exact ⟨t1, g1, g3, g4⟩
theorem evsT_put : ∀ (l : List Ev) (r : List UInt8), (∀ x ∈ l, EvP.isB x = true ∧ 0 ≤ x.1 ∧ x.1 ≤ 18446744073709551615) → evsT l.length (evsL l ++ r) = some (l, r)
  | [], r, _ => rfl
  | x :: l, r, h => by
    have hx := h x (List.mem_cons_self ..)
    have e : evsL (x :: l) ++ r = textL (EvP.putE x) ++ (evsL l ++ r) := by unfold evsL; rw [List.flatMap_cons, List.append_assoc]
    rw [List.length_cons, evsT, e, evT_put hx.1 hx.2]
    dsimp only
    rw [evsT_put l r (fun y hy => h y (List.mem_cons_of_mem _ hy))]
theorem evsT_back : ∀ (k : Nat) (s : List UInt8) (l : List Ev) (r : List UInt8), evsT k s = some (l, r) → s = evsL l ++ r ∧ l.length = k ∧ ∀ x ∈ l, EvP.isB x = true ∧ 0 ≤ x.1 ∧ x.1 ≤ 18446744073709551615
  | 0, s, l, r, h => by
    have h2 := Option.some.inj h
    have e1 : [] = l := congrArg (·.1) h2
    have e2 : s = r := congrArg (·.2) h2
    subst e1 e2
    exact ⟨rfl, rfl, fun _ h => by cases h⟩
  | k + 1, s, l, r, h => by
    rw [evsT] at h
    split at h
    · cases h
    · rename_i x r1 hx
      split at h
      · cases h
      · rename_i l1 r2 hl
        have h2 := Option.some.inj h
        have e1 : x :: l1 = l := congrArg (·.1) h2
        have e2 : r2 = r := congrArg (·.2) h2
        subst e1 e2
        obtain ⟨a1, a2, a3⟩ := evT_back hx
        obtain ⟨b1, b2, b3⟩ := evsT_back k r1 l1 r2 hl
        refine ⟨?_, by rw [List.length_cons, b2], ?_⟩
        · unfold evsL; rw [List.flatMap_cons, List.append_assoc]; rw [a1, b1]; rfl
        · intro y hy
          rcases List.mem_cons.1 hy with rfl | hy
          · exact ⟨a2, a3⟩
          · exact b3 y hy
/-- Events one by one: what is told already is set ahead. -/
def pre (told : List Ev) : Option (List Ev × List UInt8) → Option (List Ev × List UInt8)
  | none => none
  | some (l, r) => some (told ++ l, r)
theorem pre_nil (o : Option (List Ev × List UInt8)) : pre [] o = o := by cases o <;> rfl
theorem evsT_some {told : List Ev} {k : Nat} {s r : List UInt8} {x : Ev} (h : evT s = some (x, r)) : pre told (evsT (k + 1) s) = pre (told ++ [x]) (evsT k r) := by
  rw [evsT, h]
  dsimp only
  cases evsT k r with
  | none => rfl
  | some p => simp [pre]
theorem evsT_none {told : List Ev} {k : Nat} {s : List UInt8} (h : evT s = none) : pre told (evsT (k + 1) s) = none := by
  rw [evsT, h]; rfl
theorem evT_len {s r : List UInt8} {x : Ev} (h : evT s = some (x, r)) : r.length ≤ s.length := by
  rw [(evT_back h).1, List.length_append]; omega
theorem evsL_len : ∀ (l : List Ev), (∀ x ∈ l, EvP.isB x = true ∧ 0 ≤ x.1 ∧ x.1 ≤ 18446744073709551615) → (evsL l).length ≤ 31 * l.length
  | [], _ => Nat.le_refl _
  | x :: l, h => by
    have hx := h x (List.mem_cons_self ..)
    have := evsL_len l (fun y hy => h y (List.mem_cons_of_mem _ hy))
    have hp := EvP.put_len hx.1 hx.2
    have e : evsL (x :: l) = textL (EvP.putE x) ++ evsL l := by unfold evsL; rw [List.flatMap_cons]
    have h1 := WireP.putL_le 0 (EvP.putE x).length (by omega)
    rw [e, List.length_append, List.length_cons]
    unfold textL
    rw [List.length_append]
    omega
/-- What a batch of the program's own is: its bounds. -/
structure Ok (b : Ba) : Prop where
  first : 0 ≤ b.1 ∧ b.1 ≤ 18446744073709551615
  prev : b.2.2.length = 32
  evs : ∀ x ∈ b.2.1, 0 ≤ x.1 ∧ x.1 ≤ 18446744073709551615
theorem Ok.all {b : Ba} (h : Ok b) (hb : isB b = true) : ∀ x ∈ b.2.1, EvP.isB x = true ∧ 0 ≤ x.1 ∧ x.1 ≤ 18446744073709551615 :=
  fun x hx => ⟨run_is (isB_iff.1 hb).2.2.1 x hx, h.evs x hx⟩
theorem body_len {b : Ba} (h : Ok b) (hb : isB b = true) : (bodyL b).length ≤ 8000 := by
  have h1 := evsL_len _ (h.all hb)
  have h2 := (isB_iff.1 hb).2.1
  have h3 := WireP.putL_le10 b.1.toNat (by have := h.first; omega)
  have h4 := WireP.putL_le10 b.2.1.length (by omega)
  unfold bodyL
  rw [List.length_append, List.length_append, List.length_append, h.prev]
  omega
theorem frame_len (t : List UInt8) : (frameL t).length = t.length + 5 := by
  unfold frameL; rw [List.length_cons, List.length_append, WireP.fixedL_length]; omega
theorem sum_len (t : List UInt8) : (sumL t).length = t.length + 4 := by
  unfold sumL; rw [List.length_append, WireP.fixedL_length]
theorem out_len {b : Ba} : (outL b).length = (bodyL b).length + 9 := by
  unfold outL; rw [sum_len, frame_len]
theorem read_put {b : Ba} (h : Ok b) (hb : isB b = true) : readB (bodyL b) = some b := by
  have hi := isB_iff.1 hb
  obtain ⟨first, l, prev⟩ := b
  have hp : prev.length = 32 := h.prev
  have hf := h.first
  dsimp only at hf hi
  have e1 : (bodyL (first, l, prev)).drop 32 = WireP.putL first.toNat ++ (WireP.putL l.length ++ (evsL l ++ [])) := by
    rw [List.append_nil]
    show (prev ++ _).drop 32 = _
    rw [← hp, List.drop_left]
  have e2 : (bodyL (first, l, prev)).take 32 = prev := by
    show (prev ++ _).take 32 = _
    rw [← hp, List.take_left]
  have t1 := WireP.takeL_put first.toNat (WireP.putL l.length ++ (evsL l ++ [])) (by omega)
  have t2 := WireP.takeL_put l.length (evsL l ++ []) (by omega)
  have t3 := evsT_put l [] (h.all hb)
  have hlen : ¬ (bodyL (first, l, prev)).length < 32 := by
    show ¬ (prev ++ _).length < 32
    rw [List.length_append, hp]; omega
  unfold readB readE
  rw [if_neg hlen, e1, t1, if_neg (by simp), t2, if_neg (by simp), if_neg (by dsimp only; omega), t3, e2]
  dsimp only
  rw [show ((first.toNat : Nat) : Int) = first by omega, if_pos ⟨rfl, hb⟩]
theorem read_back {s : List UInt8} {b : Ba} (hr : readB s = some b) : isB b = true ∧ Ok b ∧ s = bodyL b := by
  unfold readB at hr
  split at hr
  · cases hr
  · rename_i h0
    split at hr
    · cases hr
    · rename_i h1
      split at hr
      · cases hr
      · rename_i h2
        unfold readE at hr
        split at hr
        · cases hr
        · rename_i h3
          split at hr
          · cases hr
          · rename_i l r he
            split at hr
            · rename_i h4
              obtain ⟨h4, h5⟩ := h4
              have hb := Option.some.inj hr
              subst hb h4
              have h1' := Decidable.not_not.1 h1
              have h2' := Decidable.not_not.1 h2
              obtain ⟨p1, p2⟩ := WireP.takeL_back _ _ _ (show WireP.takeL (s.drop 32) = ((WireP.takeL (s.drop 32)).1, (WireP.takeL (s.drop 32)).2.1, 0) by rw [← h1'])
              obtain ⟨q1, q2⟩ := WireP.takeL_back _ _ _ (show WireP.takeL (WireP.takeL (s.drop 32)).2.1 = ((WireP.takeL (WireP.takeL (s.drop 32)).2.1).1, (WireP.takeL (WireP.takeL (s.drop 32)).2.1).2.1, 0) by rw [← h2'])
              obtain ⟨v1, v2, v3⟩ := evsT_back _ _ _ _ he
              refine ⟨h5, ⟨by dsimp only; omega, by dsimp only; rw [List.length_take]; omega, fun x hx => (v3 x hx).2⟩, ?_⟩
              rw [List.append_nil] at v1
              unfold bodyL
              dsimp only
              rw [v2, ← v1, q1, Int.toNat_natCast, p1, List.take_append_drop]
            · cases hr
theorem numOf_inj : ∀ {l m : List UInt8}, l.length = m.length → WireP.numOf l = WireP.numOf m → l = m
  | [], [], _, _ => rfl
  | [], _ :: _, h, _ => by cases h
  | _ :: _, [], h, _ => by cases h
  | c :: l, d :: m, h, hn => by
    have hl : l.length = m.length := by simpa using h
    rw [WireP.numOf_cons, WireP.numOf_cons, hl] at hn
    have a1 := WireP.numOf_lt l
    have a2 := WireP.numOf_lt m
    rw [hl] at a1
    have hcd : c.toNat = d.toNat := by
      rcases Nat.lt_trichotomy c.toNat d.toNat with hh | hh | hh
      · exfalso
        have : (c.toNat + 1) * 256 ^ m.length ≤ d.toNat * 256 ^ m.length := Nat.mul_le_mul_right _ hh
        rw [Nat.add_mul] at this
        omega
      · exact hh
      · exfalso
        have : (d.toNat + 1) * 256 ^ m.length ≤ c.toNat * 256 ^ m.length := Nat.mul_le_mul_right _ hh
        rw [Nat.add_mul] at this
        omega
    rw [hcd] at hn
    have hAB : WireP.numOf l = WireP.numOf m := by omega
    rw [UInt8.toNat_inj.1 hcd, numOf_inj hl hAB]
theorem fixed_num {l : List UInt8} {k : Nat} (h : l.length = k) : WireP.fixedL (WireP.numOf l) k = l := by
  subst h
  apply numOf_inj (WireP.fixedL_length _ _)
  rw [WireP.numOf_fixed, Nat.mod_eq_of_lt (WireP.numOf_lt l)]
theorem frame_at {t x : List UInt8} (h : t.length ≤ 16384) : lenOf (frameL t ++ x) = t.length ∧ (frameL t ++ x).getD 0 0 = 66 ∧ (frameL t ++ x).take (5 + t.length) = frameL t ∧ (frameL t ++ x).drop (5 + t.length) = x ∧ (frameL t).drop 5 = t := by
  have e4 : (4 : Nat) = (WireP.fixedL t.length 4).length := (WireP.fixedL_length _ _).symm
  have hl := frame_len t
  refine ⟨?_, rfl, ?_, ?_, ?_⟩
  · unfold lenOf frameL
    rw [List.cons_append, List.drop_succ_cons, List.drop_zero, List.append_assoc, List.take_left' (by rw [WireP.fixedL_length]), WireP.numOf_fixed, Nat.mod_eq_of_lt (by omega)]
  · exact List.take_left' (by omega)
  · exact List.drop_left' (by omega)
  · unfold frameL
    rw [List.drop_succ_cons, List.drop_left' (by rw [WireP.fixedL_length])]
theorem get_sum {t x : List UInt8} (h : t.length ≤ 16384) (hx : x.length = 4) (hs : WireP.numOf x ≠ (CrcP.ofL (frameL t)).toNat) : getB (frameL t ++ x) = noB 10 := by
  obtain ⟨a1, a2, a3, a4, a5⟩ := frame_at (x := x) h
  have hl := frame_len t
  unfold getB
  rw [if_neg (by unfold frameL; simp), if_neg (by rw [a2]; simp), if_neg (by rw [List.length_append]; omega), a1, if_neg (by omega), if_neg (by rw [List.length_append]; omega), a3, a4, if_pos (by rw [← hx, List.take_length]; exact hs)]
theorem get_put {b : Ba} (h : Ok b) (hb : isB b = true) (r : List UInt8) : getB (outL b ++ r) = ((b, (outL b).length), 0) := by
  have hn := body_len h hb
  have hl := frame_len (bodyL b)
  rw [out_len]
  unfold outL sumL
  rw [List.append_assoc]
  obtain ⟨a1, a2, a3, a4, a5⟩ := frame_at (t := bodyL b) (x := WireP.fixedL (CrcP.ofL (frameL (bodyL b))).toNat 4 ++ r) (by omega)
  have hc := (CrcP.ofL (frameL (bodyL b))).isLt
  unfold getB
  rw [if_neg (by unfold frameL; simp), if_neg (by rw [a2]; simp), if_neg (by rw [List.length_append]; omega), a1, if_neg (by omega), if_neg (by rw [List.length_append, List.length_append, WireP.fixedL_length]; omega), a3, a4,
    if_neg (by rw [List.take_left' (WireP.fixedL_length _ _), WireP.numOf_fixed, Nat.mod_eq_of_lt (by omega)]; simp), a5, read_put h hb]
theorem get_cut {b : Ba} (h : Ok b) (hb : isB b = true) {n : Nat} (hn : n < (outL b).length) : getB ((outL b).take n) = noB 4 := by
  have hm := body_len h hb
  have hl := frame_len (bodyL b)
  have ho := out_len (b := b)
  have hlen : ((outL b).take n).length = n := by rw [List.length_take]; omega
  by_cases h0 : n = 0
  · subst h0; rfl
  have hne : (outL b).take n ≠ [] := by intro h; rw [h] at hlen; simp at hlen; omega
  have h66 : ((outL b).take n).getD 0 0 = 66 := by
    obtain ⟨m, rfl⟩ : ∃ m, n = m + 1 := ⟨n - 1, by omega⟩
    unfold outL sumL frameL
    rw [List.cons_append, List.take_succ_cons]
    rfl
  unfold getB
  rw [if_neg hne, if_neg (by rw [h66]; simp), hlen]
  by_cases h5 : n < 5
  · rw [if_pos h5]
  have hlo : lenOf ((outL b).take n) = (bodyL b).length := by
    have := (frame_at (t := bodyL b) (x := WireP.fixedL (CrcP.ofL (frameL (bodyL b))).toNat 4) (by omega)).1
    rw [← this]
    show WireP.numOf ((((outL b).take n).drop 1).take 4) = WireP.numOf (((outL b).drop 1).take 4)
    rw [List.drop_take, List.take_take, Nat.min_eq_left (by omega)]
  rw [if_neg h5, hlo, if_neg (by omega), if_pos (by omega)]
theorem get_back {s : List UInt8} {b : Ba} {n : Nat} (h : getB s = ((b, n), 0)) : isB b = true ∧ Ok b ∧ outL b = s.take n ∧ n ≤ s.length ∧ n = (outL b).length := by
  unfold getB at h
  split at h
  · have h9 : (4 : Int) = 0 := congrArg (·.2) h
    omega
  rename_i h0
  split at h
  · have h9 : (3 : Int) = 0 := congrArg (·.2) h
    omega
  rename_i h1
  split at h
  · have h9 : (4 : Int) = 0 := congrArg (·.2) h
    omega
  rename_i h2
  split at h
  · have h9 : (2 : Int) = 0 := congrArg (·.2) h
    omega
  rename_i h3
  split at h
  · have h9 : (4 : Int) = 0 := congrArg (·.2) h
    omega
  rename_i h4
  split at h
  · have h9 : (10 : Int) = 0 := congrArg (·.2) h
    omega
  rename_i h5
  split at h
  · have h9 : (3 : Int) = 0 := congrArg (·.2) h
    omega
  rename_i b' hr
  have e1 : b' = b := congrArg (·.1.1) h
  have e2 : lenOf s + 9 = n := congrArg (·.1.2) h
  subst e1 e2
  obtain ⟨r1, r2, r3⟩ := read_back hr
  have h1' := Decidable.not_not.1 h1
  have h5' := Decidable.not_not.1 h5
  have hbl : (bodyL b').length = lenOf s := by rw [← r3, List.length_drop, List.length_take]; omega
  have hs4 : ((s.drop 1).take 4).length = 4 := by rw [List.length_take, List.length_drop]; omega
  have hf : frameL (bodyL b') = s.take (5 + lenOf s) := by
    obtain ⟨c, s', rfl⟩ : ∃ c s', s = c :: s' := by cases s with
      | nil => exact absurd rfl h0
      | cons c s' => exact ⟨c, s', rfl⟩
    have hc : c = 66 := h1'
    subst hc
    unfold frameL
    rw [hbl, ← r3]
    have e4 : WireP.fixedL (lenOf (66 :: s')) 4 = s'.take 4 := by
      unfold lenOf
      rw [List.drop_succ_cons, List.drop_zero] at hs4 ⊢
      exact fixed_num hs4
    rw [e4, show 5 + lenOf (66 :: s') = (4 + lenOf (66 :: s')) + 1 by omega, List.take_succ_cons, List.drop_succ_cons, List.drop_take, Nat.add_sub_cancel_left]
    rw [List.take_add]
  refine ⟨r1, r2, ?_, by omega, by rw [out_len, hbl]⟩
  unfold outL sumL
  rw [hf, ← h5', fixed_num (by rw [List.length_take, List.length_drop]; omega), show lenOf s + 9 = (5 + lenOf s) + 4 by omega]
  exact List.take_add.symm
theorem get_or (s : List UInt8) : (∃ e, getB s = noB e) ∨ (getB s).2 = 0 := by
  unfold getB
  split
  · exact Or.inl ⟨_, rfl⟩
  split
  · exact Or.inl ⟨_, rfl⟩
  split
  · exact Or.inl ⟨_, rfl⟩
  split
  · exact Or.inl ⟨_, rfl⟩
  split
  · exact Or.inl ⟨_, rfl⟩
  split
  · exact Or.inl ⟨_, rfl⟩
  split
  · exact Or.inl ⟨_, rfl⟩
  · exact Or.inr rfl
theorem get_none {s : List UInt8} (h : (getB s).2 ≠ 0) : getB s = noB (getB s).2 := by
  rcases get_or s with ⟨e, he⟩ | he
  · rw [he]; rfl
  · exact absurd he h
/-- Four bytes turned, in the body or in the sum. -/
theorem four_inj (s : BitVec 32) {x y : List UInt8} (hx : x.length = 4) (hy : y.length = 4) (h : CrcP.add s x = CrcP.add s y) : x = y := by
  match x, y, hx, hy with
  | [a0, a1, a2, a3], [b0, b1, b2, b3], _, _ =>
    rw [CrcP.add_four, CrcP.add_four] at h
    have h1 := CrcP.bitN_inj 32 _ _ h
    rw [BitVec.xor_comm s, BitVec.xor_comm s] at h1
    have h2 := congrArg BitVec.toNat (CrcP.xor_cancel _ _ _ h1)
    simp only [BitVec.toNat_ofNat] at h2
    have q0 := a0.toNat_lt; have q1 := a1.toNat_lt; have q2 := a2.toNat_lt; have q3 := a3.toNat_lt
    have p0 := b0.toNat_lt; have p1 := b1.toNat_lt; have p2 := b2.toNat_lt; have p3 := b3.toNat_lt
    rw [Nat.mod_eq_of_lt (by omega), Nat.mod_eq_of_lt (by omega)] at h2
    rw [UInt8.toNat_inj.1 (show a0.toNat = b0.toNat by omega), UInt8.toNat_inj.1 (show a1.toNat = b1.toNat by omega), UInt8.toNat_inj.1 (show a2.toNat = b2.toNat by omega), UInt8.toNat_inj.1 (show a3.toNat = b3.toNat by omega)]
theorem crc_ne {a b x y : List UInt8} (hx : x.length = 4) (hy : y.length = 4) (h : x ≠ y) : CrcP.ofL (a ++ (x ++ b)) ≠ CrcP.ofL (a ++ (y ++ b)) := by
  intro h0
  have h1 := CrcP.ofL_inj h0
  rw [CrcP.add_append, CrcP.add_append, CrcP.add_append, CrcP.add_append] at h1
  exact h (four_inj _ hx hy (CrcP.add_inj _ _ _ h1))
end BatP
end Go.Proofs.YtfcffglgkblidaaDoor
