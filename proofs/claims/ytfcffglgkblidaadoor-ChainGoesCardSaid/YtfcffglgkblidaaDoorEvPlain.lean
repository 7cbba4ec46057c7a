
/-
  Plain laws of layer 4: events as bytes, rows of events.
-/
import Derived.Test.YtfcffglgkblidaaDoorWirePlain
namespace Go.Proofs.YtfcffglgkblidaaDoor

namespace EvP
/-- An event: number, tick, partition, kind, two numbers more. -/
abbrev Ev := Int × Int × Int × Int × Int × Int
def zero : Ev := (0, 0, 0, 0, 0, 0)
def isB (x : Ev) : Bool := decide (1 ≤ x.2.2.2.1 ∧ x.2.2.2.1 ≤ 8 ∧ 0 ≤ x.2.1 ∧ x.2.1 ≤ 1099511627776 ∧ -1 ≤ x.2.2.1 ∧ x.2.2.1 ≤ 31 ∧ 0 ≤ x.2.2.2.2.1 ∧ x.2.2.2.2.1 ≤ 4294967295 ∧ 0 ≤ x.2.2.2.2.2 ∧ x.2.2.2.2.2 ≤ 4294967295)
theorem isB_iff {q t p k a b : Int} : isB (q, t, p, k, a, b) = true ↔ (1 ≤ k ∧ k ≤ 8 ∧ 0 ≤ t ∧ t ≤ 1099511627776 ∧ -1 ≤ p ∧ p ≤ 31 ∧ 0 ≤ a ∧ a ≤ 4294967295 ∧ 0 ≤ b ∧ b ≤ 4294967295) := by simp [isB]
/-- Its bytes. -/
def putE (x : Ev) : List UInt8 := UInt8.ofNat x.2.2.2.1.toNat :: (WireP.putL x.1.toNat ++ WireP.putL x.2.1.toNat ++ WireP.putL (x.2.2.1 + 1).toNat ++ WireP.putL x.2.2.2.2.1.toNat ++ WireP.putL x.2.2.2.2.2.toNat)
/-- A number is taken, if none failed before. -/
def tk (s : List UInt8 × Int) : Nat × (List UInt8 × Int) := if s.2 ≠ 0 then (0, s) else ((WireP.takeL s.1).1, (WireP.takeL s.1).2)
def bnd (n : Nat) : Int := if 1099511627776 < n then 0 else n
def st (l : List UInt8) : Nat → Nat × (List UInt8 × Int)
  | 0 => (0, l, 0)
  | k + 1 => tk (st l k).2
def nth (l : List UInt8) (k : Nat) : Nat := (st l k).1
def ev (c : UInt8) (l : List UInt8) : Ev := (nth l 1, bnd (nth l 2), bnd (nth l 3) - 1, c.toNat, bnd (nth l 4), bnd (nth l 5))
def fitsB (l : List UInt8) : Bool := decide (nth l 2 ≤ 1099511627776 ∧ nth l 3 ≤ 1099511627776 ∧ nth l 4 ≤ 1099511627776 ∧ nth l 5 ≤ 1099511627776)
def fin (c : UInt8) (l : List UInt8) : Ev × Int :=
  if (st l 5).2.2 ≠ 0 then (zero, (st l 5).2.2) else if (st l 5).2.1 = [] ∧ fitsB l = true ∧ isB (ev c l) = true then (ev c l, 0) else (zero, 3)
def getE : List UInt8 → Ev × Int
  | [] => (zero, 4)
  | c :: l => fin c l

theorem tk_ok {s : List UInt8} {n : Nat} {r : List UInt8} (h : WireP.takeL s = (n, r, 0)) : tk (s, 0) = (n, r, 0) := by unfold tk; rw [if_neg (by simp), h]
theorem tk_err {s : List UInt8 × Int} (h : s.2 ≠ 0) : tk s = (0, s) := by unfold tk; rw [if_pos h]
theorem st_err {l : List UInt8} {k m : Nat} (h : (st l k).2.2 ≠ 0) (hm : k ≤ m) : (st l m).2 = (st l k).2 := by
  induction hm with
  | refl => rfl
  | step _ ih => rw [st, tk_err (by rw [ih]; exact h)]; exact ih
theorem st_back {l : List UInt8} {k : Nat} (h : (st l (k + 1)).2.2 = 0) : (st l k).2.2 = 0 ∧ WireP.takeL (st l k).2.1 = st l (k + 1) := by
  have h0 : (st l k).2.2 = 0 := Classical.byContradiction fun hn => by rw [st_err hn (Nat.le_succ k)] at h; exact hn h
  refine ⟨h0, ?_⟩
  rw [st]
  unfold tk
  rw [if_neg (by rw [h0]; simp)]
/-- What five numbers are taken off. -/
theorem st_all {l : List UInt8} (h : (st l 5).2.2 = 0) : l = WireP.putL (nth l 1) ++ (WireP.putL (nth l 2) ++ (WireP.putL (nth l 3) ++ (WireP.putL (nth l 4) ++ (WireP.putL (nth l 5) ++ (st l 5).2.1)))) ∧ nth l 1 < 18446744073709551616 := by
  have key : ∀ k, (st l (k + 1)).2.2 = 0 → WireP.putL (nth l (k + 1)) ++ (st l (k + 1)).2.1 = (st l k).2.1 ∧ nth l (k + 1) < 18446744073709551616 := by
    intro k hk
    obtain ⟨h1, h2⟩ := st_back hk
    refine WireP.takeL_back (st l k).2.1 (st l (k + 1)).2.1 (nth l (k + 1)) ?_
    rw [h2, ← hk]
    rfl
  have a4 := (st_back h).1
  have a3 := (st_back a4).1
  have a2 := (st_back a3).1
  have a1 := (st_back a2).1
  rw [(key 4 h).1, (key 3 a4).1, (key 2 a3).1, (key 1 a2).1, (key 0 a1).1]
  exact ⟨rfl, (key 0 a1).2⟩
theorem st_put {n1 n2 n3 n4 n5 : Nat} (r : List UInt8) (h1 : n1 < 18446744073709551616) (h2 : n2 < 18446744073709551616) (h3 : n3 < 18446744073709551616) (h4 : n4 < 18446744073709551616) (h5 : n5 < 18446744073709551616) :
    let l := WireP.putL n1 ++ WireP.putL n2 ++ WireP.putL n3 ++ WireP.putL n4 ++ WireP.putL n5 ++ r
    nth l 1 = n1 ∧ nth l 2 = n2 ∧ nth l 3 = n3 ∧ nth l 4 = n4 ∧ nth l 5 = n5 ∧ (st l 5).2 = (r, 0) := by
  intro l
  have hl : l = WireP.putL n1 ++ (WireP.putL n2 ++ (WireP.putL n3 ++ (WireP.putL n4 ++ (WireP.putL n5 ++ r)))) := by simp [l]
  have s1 : st l 1 = (n1, WireP.putL n2 ++ (WireP.putL n3 ++ (WireP.putL n4 ++ (WireP.putL n5 ++ r))), 0) := by rw [hl]; exact tk_ok (WireP.takeL_put _ _ h1)
  have s2 : st l 2 = (n2, WireP.putL n3 ++ (WireP.putL n4 ++ (WireP.putL n5 ++ r)), 0) := by rw [st, s1]; exact tk_ok (WireP.takeL_put _ _ h2)
  have s3 : st l 3 = (n3, WireP.putL n4 ++ (WireP.putL n5 ++ r), 0) := by rw [st, s2]; exact tk_ok (WireP.takeL_put _ _ h3)
  have s4 : st l 4 = (n4, WireP.putL n5 ++ r, 0) := by rw [st, s3]; exact tk_ok (WireP.takeL_put _ _ h4)
  have s5 : st l 5 = (n5, r, 0) := by rw [st, s4]; exact tk_ok (WireP.takeL_put _ _ h5)
  exact ⟨by rw [nth, s1], by rw [nth, s2], by rw [nth, s3], by rw [nth, s4], by rw [nth, s5], by rw [s5]⟩
theorem bnd_le {n : Nat} (h : n ≤ 1099511627776) : bnd n = n := by unfold bnd; rw [if_neg (by omega)]

/-- What is put is got again; with something behind it, it is refused. -/
theorem get_put {x : Ev} (hx : isB x = true) (hq : 0 ≤ x.1 ∧ x.1 ≤ 18446744073709551615) (r : List UInt8) : getE (putE x ++ r) = if r = [] then (x, 0) else (zero, 3) := by
  obtain ⟨q, t, p, k, a, b⟩ := x
  have hx' := isB_iff.1 hx
  dsimp only at hq
  have hs := st_put (n1 := q.toNat) (n2 := t.toNat) (n3 := (p + 1).toNat) (n4 := a.toNat) (n5 := b.toNat) r (by omega) (by omega) (by omega) (by omega) (by omega)
  simp only at hs
  obtain ⟨e1, e2, e3, e4, e5, e6⟩ := hs
  show fin (UInt8.ofNat k.toNat) (WireP.putL q.toNat ++ WireP.putL t.toNat ++ WireP.putL (p + 1).toNat ++ WireP.putL a.toNat ++ WireP.putL b.toNat ++ r) = _
  generalize WireP.putL q.toNat ++ WireP.putL t.toNat ++ WireP.putL (p + 1).toNat ++ WireP.putL a.toNat ++ WireP.putL b.toNat ++ r = l at *
  have hk : (UInt8.ofNat k.toNat).toNat = k.toNat := by simp [UInt8.toNat_ofNat']; omega
  have he : ev (UInt8.ofNat k.toNat) l = (q, t, p, k, a, b) := by
    unfold ev
    rw [e1, e2, e3, e4, e5, hk, bnd_le (by omega), bnd_le (by omega), bnd_le (by omega), bnd_le (by omega)]
    simp only [Prod.mk.injEq]
    omega
  have hf : fitsB l = true := by
    unfold fitsB
    rw [e2, e3, e4, e5]
    exact decide_eq_true ⟨by omega, by omega, by omega, by omega⟩
  unfold fin
  rw [if_neg (by rw [e6]; simp), e6, he, hf, hx]
  by_cases hr : r = []
  · rw [if_pos ⟨hr, rfl, rfl⟩, if_pos hr]
  · rw [if_neg (fun h => hr h.1), if_neg hr]
/-- What is got is what would be put. -/
theorem put_get {s : List UInt8} {x : Ev} (h : getE s = (x, 0)) : isB x = true ∧ putE x = s ∧ 0 ≤ x.1 ∧ x.1 ≤ 18446744073709551615 := by
  cases s with
  | nil => simp [getE] at h
  | cons c l =>
    change fin c l = (x, 0) at h
    unfold fin at h
    split at h
    · rename_i he
      simp only [Prod.mk.injEq] at h
      exact absurd h.2 he
    · rename_i he
      have he0 : (st l 5).2.2 = 0 := Classical.byContradiction he
      split at h
      · rename_i hx
        obtain ⟨h1, h2, h3⟩ := hx
        simp only [Prod.mk.injEq, and_true] at h
        subst h
        obtain ⟨e1, e2⟩ := st_all he0
        have h2' := of_decide_eq_true h2
        refine ⟨h3, ?_, by simp [ev], by simp [ev]; omega⟩
        rw [h1, List.append_nil] at e1
        have h3' := isB_iff.1 h3
        rw [bnd_le h2'.1, bnd_le h2'.2.1, bnd_le h2'.2.2.1, bnd_le h2'.2.2.2] at h3'
        unfold putE ev
        simp only [bnd_le h2'.1, bnd_le h2'.2.1, bnd_le h2'.2.2.1, bnd_le h2'.2.2.2, Int.toNat_natCast]
        rw [show ((nth l 3 : Int) - 1 + 1).toNat = nth l 3 by omega]
        congr 1
        · simp
        · rw [List.append_assoc, List.append_assoc, List.append_assoc]; exact e1.symm
      · simp at h
theorem get_none {s : List UInt8} (h : (getE s).2 ≠ 0) : (getE s).1 = zero := by
  cases s with
  | nil => rfl
  | cons c l =>
    change (fin c l).2 ≠ 0 at h
    change (fin c l).1 = zero
    unfold fin at h ⊢
    split
    · rfl
    · rename_i he
      rw [if_neg he] at h
      split
      · rename_i hx
        rw [if_pos hx] at h
        simp at h
      · rfl
theorem put_len {x : Ev} (hx : isB x = true) (hq : 0 ≤ x.1 ∧ x.1 ≤ 18446744073709551615) : 6 ≤ (putE x).length ∧ (putE x).length ≤ 30 := by
  obtain ⟨q, t, p, k, a, b⟩ := x
  have hx' := isB_iff.1 hx
  dsimp only at hq
  unfold putE
  simp only [List.length_cons, List.length_append]
  have a1 := WireP.putL_pos q.toNat
  have a2 := WireP.putL_pos t.toNat
  have a3 := WireP.putL_pos (p + 1).toNat
  have a4 := WireP.putL_pos a.toNat
  have a5 := WireP.putL_pos b.toNat
  have b1 := WireP.putL_le10 q.toNat (by omega)
  have b2 := WireP.putL_le 5 t.toNat (by omega)
  have b3 := WireP.putL_le 0 (p + 1).toNat (by omega)
  have b4 := WireP.putL_le 4 a.toNat (by omega)
  have b5 := WireP.putL_le 4 b.toNat (by omega)
  omega
/-- The last byte less: it is none. -/
theorem get_cut {x : Ev} (hx : isB x = true) (hq : 0 ≤ x.1 ∧ x.1 ≤ 18446744073709551615) : (getE ((putE x).take ((putE x).length - 1))).2 ≠ 0 := by
  intro h
  have hl := (put_len hx hq).1
  generalize hy : getE ((putE x).take ((putE x).length - 1)) = y at h
  obtain ⟨z, c⟩ := y
  obtain rfl : c = 0 := h
  obtain ⟨g1, g2, g3, g4⟩ := put_get hy
  have e : putE x = putE z ++ (putE x).drop ((putE x).length - 1) := by rw [g2, List.take_append_drop]
  have hd : (putE x).drop ((putE x).length - 1) ≠ [] := by
    intro hn
    have := congrArg List.length hn
    rw [List.length_drop] at this
    simp at this
    omega
  have p1 := get_put hx hq []
  rw [List.append_nil, if_pos rfl] at p1
  have p2 := get_put g1 ⟨g3, g4⟩ ((putE x).drop ((putE x).length - 1))
  rw [← e, if_neg hd, p1] at p2
  simp at p2

/-! ### Rows -/
def okAt (l : List Ev) (i : Nat) : Bool := isB (l.getD i zero) && (decide (i = 0) || (decide ((l.getD i zero).1 ≠ 0) && decide ((l.getD (i - 1) zero).1 = (l.getD i zero).1 - 1)))
def runB (l : List Ev) : Bool := (List.range l.length).all (okAt l)
theorem runB_iff {l : List Ev} : runB l = true ↔ ∀ i, i < l.length → okAt l i = true := by simp [runB]
theorem runB_true {l : List Ev} {n : Nat} (hn : n = l.length) (h : ∀ j, j < n → okAt l j = true) : runB l = true := runB_iff.2 (fun i hi => h i (by omega))
theorem runB_false {l : List Ev} {k : Nat} (hk : k < l.length) (h : okAt l k = false) : runB l = false := by
  rw [Bool.eq_false_iff]; intro hr
  rw [runB_iff.1 hr k hk] at h; cases h
theorem okAt_iff {l : List Ev} {i : Nat} : okAt l i = true ↔ isB (l.getD i zero) = true ∧ (i = 0 ∨ ((l.getD i zero).1 ≠ 0 ∧ (l.getD (i - 1) zero).1 = (l.getD i zero).1 - 1)) := by
  simp only [okAt, Bool.and_eq_true, Bool.or_eq_true, decide_eq_true_eq]
theorem getD_left {a b : List Ev} {i : Nat} (h : i < a.length) : (a ++ b).getD i zero = a.getD i zero := by
  rw [List.getD_eq_getElem?_getD, List.getD_eq_getElem?_getD, List.getElem?_append_left h]
theorem getD_right {a b : List Ev} {i : Nat} (h : a.length ≤ i) : (a ++ b).getD i zero = b.getD (i - a.length) zero := by
  rw [List.getD_eq_getElem?_getD, List.getD_eq_getElem?_getD, List.getElem?_append_right h]
/-- The second row goes on where the first one ended. -/
def on (a b : List Ev) : Bool := decide (a.length = 0) || (decide (b.length = 0) || (decide ((b.getD 0 zero).1 ≠ 0) && decide ((a.getD (a.length - 1) zero).1 = (b.getD 0 zero).1 - 1)))
theorem run_append (a b : List Ev) : runB (a ++ b) = (runB a && runB b && on a b) := by
  rw [Bool.eq_iff_iff, Bool.and_eq_true, Bool.and_eq_true, runB_iff, runB_iff, runB_iff]
  have hon : on a b = true ↔ (a.length = 0 ∨ (b.length = 0 ∨ ((b.getD 0 zero).1 ≠ 0 ∧ (a.getD (a.length - 1) zero).1 = (b.getD 0 zero).1 - 1))) := by
    simp only [on, Bool.and_eq_true, Bool.or_eq_true, decide_eq_true_eq]
  rw [hon]
  constructor
  · intro h
    refine ⟨⟨fun i hi => ?_, fun i hi => ?_⟩, ?_⟩
    · have := okAt_iff.1 (h i (by simp; omega))
      rw [getD_left hi] at this
      refine okAt_iff.2 ⟨this.1, ?_⟩
      rcases this.2 with h0 | h0
      · exact .inl h0
      · by_cases hz : i = 0
        · exact .inl hz
        · rw [getD_left (by omega)] at h0; exact .inr h0
    · have := okAt_iff.1 (h (a.length + i) (by simp; omega))
      rw [getD_right (by omega), Nat.add_sub_cancel_left] at this
      refine okAt_iff.2 ⟨this.1, ?_⟩
      by_cases hz : i = 0
      · exact .inl hz
      · rcases this.2 with h0 | h0
        · omega
        · rw [getD_right (by omega), show a.length + i - 1 - a.length = i - 1 by omega] at h0; exact .inr h0
    · by_cases h1 : a.length = 0
      · exact .inl h1
      · by_cases h2 : b.length = 0
        · exact .inr (.inl h2)
        · refine .inr (.inr ?_)
          have := okAt_iff.1 (h a.length (by simp; omega))
          rw [getD_right (Nat.le_refl _), Nat.sub_self, getD_left (by omega)] at this
          rcases this.2 with h0 | h0
          · omega
          · exact h0
  · rintro ⟨⟨ha, hb⟩, hc⟩ i hi
    rw [List.length_append] at hi
    by_cases h1 : i < a.length
    · have := okAt_iff.1 (ha i h1)
      refine okAt_iff.2 ⟨by rw [getD_left h1]; exact this.1, ?_⟩
      rcases this.2 with h0 | h0
      · exact .inl h0
      · rw [getD_left h1, getD_left (by omega)]; exact .inr h0
    · have := okAt_iff.1 (hb (i - a.length) (by omega))
      refine okAt_iff.2 ⟨by rw [getD_right (by omega)]; exact this.1, ?_⟩
      by_cases h2 : i = 0
      · exact .inl h2
      · rw [getD_right (by omega)]
        by_cases h3 : i = a.length
        · subst h3
          rw [Nat.sub_self, getD_left (by omega)]
          rcases hc with h4 | h4 | h4
          · omega
          · omega
          · exact .inr h4
        · rw [getD_right (by omega), show i - 1 - a.length = i - a.length - 1 by omega]
          rcases this.2 with h0 | h0
          · omega
          · exact .inr h0
end EvP

end Go.Proofs.YtfcffglgkblidaaDoor
