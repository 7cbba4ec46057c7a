/-
  The laws of layer 24, in plain terms.
-/
import Derived.Test.YtmdagajbelfnoaaGraphPlain3
import Derived.Test.YtmdagajbelfnoaaGraph6
namespace Go.Proofs.Ytmdagajbelfnoaa

namespace GraP
theorem edges_in {pn : Nat} {t : Bool} {L : List Ch} : ∀ e ∈ edges pn t L, e.1 < min pn 64 ∧ e.2 < min pn 64 := by
  intro e he
  obtain ⟨c, hc, h⟩ := List.mem_filterMap.1 he
  unfold edge at h
  split at h
  · rename_i hb
    simp only [isP, Bool.and_eq_true, decide_eq_true_eq] at hb
    obtain rfl := Option.some.inj h
    cases t <;> simp <;> omega
  · cases h
theorem edges_turn (pn : Nat) (t : Bool) (L : List Ch) : edges pn (!t) L = (edges pn t L).map (fun e => (e.2, e.1)) := by
  unfold edges
  rw [List.map_filterMap]
  congr 1
  funext c
  unfold edge
  split <;> cases t <;> rfl
theorem D_turn {pn : Nat} {L : List Ch} {a k b : Nat} : D (edges pn true L) a k b ↔ D (edges pn false L) b k a := by
  constructor
  · intro h; have := h.turn; rw [← edges_turn] at this; exact this
  · intro h; have := h.turn; rw [← edges_turn] at this; exact this
/-- Is there a way? -/
def Way (pn : Nat) (L : List Ch) (a b : Nat) : Prop := D (edges pn false L) a 64 b
theorem D_full {pn : Nat} {t : Bool} {L : List Ch} {a k b : Nat} (ha : a < min pn 64) (h : D (edges pn t L) a k b) : D (edges pn t L) a 64 b := by
  by_cases hk : k ≤ 64
  · exact h.mono hk
  · have hf := it_full (edges_in (pn := pn) (t := t) (L := L)) ha (by omega)
    rw [← it_bit] at h ⊢
    rw [hf 64 (by omega)]
    rw [hf k (by omega)] at h
    exact h
theorem Way.trans {pn : Nat} {L : List Ch} {a b c : Nat} (ha : a < min pn 64) (h : Way pn L a b) (k : Way pn L b c) : Way pn L a c := D_full ha (h.add k)
theorem Way.self (pn : Nat) (L : List Ch) (a : Nat) : Way pn L a a := D.mono (k := 0) rfl (by omega)
theorem D.in' {es : List Edge} {n a : Nat} (hes : ∀ e ∈ es, e.1 < n ∧ e.2 < n) (ha : a < n) : ∀ {k b : Nat}, D es a k b → b < n := by
  intro k
  induction k with
  | zero => intro b h; rw [D] at h; omega
  | succ k ih =>
    intro b h
    rcases h with h | ⟨e, h1, h2, h3⟩
    · exact ih h
    · have := (hes e h1).2; omega
theorem Way.lt {pn : Nat} {L : List Ch} {a b : Nat} (ha : a < min pn 64) (h : Way pn L a b) : b < min pn 64 := D.in' edges_in ha h

/-! ### What the program answers -/
def reachV (pn : Nat) (t : Bool) (L : List Ch) (a : Int) : Nat := if isP pn a = true then it (edges pn t L) a.toNat 64 else 0
def farV (pn : Nat) (L : List Ch) (a b : Int) : Int := if (isP pn a && isP pn b) = true then dst (edges pn false L) a.toNat 64 b.toNat else -1
def closedV (pn : Nat) (L : List Ch) (s : Nat) : Bool := (edges pn false L).all fun e => s.testBit e.1 || !s.testBit e.2
theorem isP_iff {n : Nat} {x : Int} : isP n x = true ↔ 0 ≤ x ∧ x < ((min n 64 : Nat) : Int) := by simp [isP]
theorem ahead_bit {pn : Nat} {L : List Ch} {a : Int} {i : Nat} : (reachV pn true L a).testBit i = true ↔ isP pn a = true ∧ i < min pn 64 ∧ Way pn L i a.toNat := by
  unfold reachV
  split
  · rename_i h
    have h' := isP_iff.1 h
    rw [it_bit, D_turn]
    constructor
    · intro hd; exact ⟨h, D.in' edges_in (by omega) (D_turn.2 hd), hd⟩
    · intro hd; exact hd.2.2
  · rename_i h; simp [h]
theorem behind_bit {pn : Nat} {L : List Ch} {a : Int} {i : Nat} : (reachV pn false L a).testBit i = true ↔ isP pn a = true ∧ i < min pn 64 ∧ Way pn L a.toNat i := by
  unfold reachV
  split
  · rename_i h
    have h' := isP_iff.1 h
    rw [it_bit]
    constructor
    · intro hd; exact ⟨h, D.in' edges_in (by omega) hd, hd⟩
    · intro hd; exact hd.2.2
  · rename_i h; simp [h]
theorem reach_lt {pn : Nat} {t : Bool} {L : List Ch} {a : Int} : reachV pn t L a < 18446744073709551616 := by
  refine Nat.lt_pow_two_of_testBit (n := 64) _ fun i hi => ?_
  cases hq : (reachV pn t L a).testBit i with
  | false => rfl
  | true => cases t with
    | true => have := (ahead_bit.1 hq).2.1; omega
    | false => have := (behind_bit.1 hq).2.1; omega
theorem far_ge {pn : Nat} {L : List Ch} {a b : Int} : -1 ≤ farV pn L a b ∧ farV pn L a b ≤ 64 := by
  unfold farV; split
  · exact dst_ge _ _ _ _
  · omega
theorem far_way {pn : Nat} {L : List Ch} {a b : Int} : 0 ≤ farV pn L a b ↔ isP pn a = true ∧ isP pn b = true ∧ Way pn L a.toNat b.toNat := by
  unfold farV
  split
  · rename_i h
    rw [Bool.and_eq_true] at h
    rw [dst_bit, it_bit]
    exact ⟨fun hd => ⟨h.1, h.2, hd⟩, fun hd => hd.2.2⟩
  · rename_i h
    rw [Bool.and_eq_true] at h
    constructor
    · intro h2; omega
    · rintro ⟨h1, h2, -⟩; exact absurd ⟨h1, h2⟩ h
theorem far_dist {pn : Nat} {L : List Ch} {a b : Int} {k : Nat} : farV pn L a b = k ↔ isP pn a = true ∧ isP pn b = true ∧ k ≤ 64 ∧ D (edges pn false L) a.toNat k b.toNat ∧ ∀ m, m < k → ¬ D (edges pn false L) a.toNat m b.toNat := by
  unfold farV
  split
  · rename_i h
    rw [Bool.and_eq_true] at h
    rw [dst_val]
    constructor
    · rintro ⟨h1, h2, h3⟩; exact ⟨h.1, h.2, h1, (it_bit _ _ _ _).1 h2, fun m hm hd => by have h4 := h3 m hm; rw [(it_bit _ _ _ _).2 hd] at h4; cases h4⟩
    · rintro ⟨-, -, h1, h2, h3⟩
      refine ⟨h1, (it_bit _ _ _ _).2 h2, fun m hm => ?_⟩
      cases hq : (it (edges pn false L) a.toNat m).testBit b.toNat with
      | false => rfl
      | true => exact absurd ((it_bit _ _ _ _).1 hq) (h3 m hm)
  · rename_i h
    rw [Bool.and_eq_true] at h
    constructor
    · intro h2; omega
    · rintro ⟨h1, h2, -⟩; exact absurd ⟨h1, h2⟩ h

/-! ### The reference -/
/-- Its table, behind as many rounds as there are partitions. -/
theorem dst_full {pn : Nat} {t : Bool} {L : List Ch} {a : Nat} (ha : a < min pn 64) : ∀ m v, min pn 64 ≤ m → dst (edges pn t L) a m v = dst (edges pn t L) a (min pn 64) v := by
  have hf := it_full (edges_in (pn := pn) (t := t) (L := L)) ha (by omega)
  intro m v hm
  induction hm with
  | refl => rfl
  | step hm ih =>
    rw [dst, ih, hf _ (Nat.le_succ_of_le hm)]
    split
    · rename_i h
      have := (dst_bit (edges pn t L) a (min pn 64) v).2 h.2
      omega
    · rfl
def setOf (f : Nat → Bool) (n : Nat) : Nat := (List.range n).foldl (fun s i => if f i then s ||| 2 ^ i else s) 0
theorem setOf_succ (f : Nat → Bool) (n : Nat) : setOf f (n + 1) = if f n then setOf f n ||| 2 ^ n else setOf f n := by
  unfold setOf; rw [List.range_succ, List.foldl_append]; rfl
theorem setOf_bit (f : Nat → Bool) (n i : Nat) : (setOf f n).testBit i = (decide (i < n) && f i) := by
  induction n with
  | zero => simp [setOf]
  | succ n ih =>
    rw [setOf_succ]
    by_cases hf : f n = true
    · rw [if_pos hf, bit_pow, ih]
      by_cases hi : n = i
      · subst hi; simp [hf]
      · rw [Bool.eq_iff_iff]; simp [hi]; omega
    · rw [if_neg hf, ih]
      by_cases hi : n = i
      · subst hi; simp [hf]
      · rw [Bool.eq_iff_iff]; simp; omega
theorem setOf_lt (f : Nat → Bool) (n : Nat) (hn : n ≤ 64) : setOf f n < 18446744073709551616 := by
  refine Nat.lt_pow_two_of_testBit (n := 64) _ fun i hi => ?_
  rw [setOf_bit]; simp; omega
theorem ref_ahead (pn : Nat) (L : List Ch) (a : Int) : setOf (fun i => decide (0 ≤ farV pn L i a)) (min pn 64) = reachV pn true L a := by
  apply Nat.eq_of_testBit_eq
  intro i
  rw [setOf_bit, Bool.eq_iff_iff, ahead_bit, Bool.and_eq_true, decide_eq_true_eq, decide_eq_true_eq, far_way, isP_iff]
  constructor
  · rintro ⟨h1, h2, h3, h4⟩; exact ⟨h3, h1, h4⟩
  · rintro ⟨h1, h2, h3⟩; exact ⟨h2, ⟨by omega, by omega⟩, h1, h3⟩
theorem ref_behind (pn : Nat) (L : List Ch) (a : Int) : setOf (fun i => decide (0 ≤ farV pn L a i)) (min pn 64) = reachV pn false L a := by
  apply Nat.eq_of_testBit_eq
  intro i
  rw [setOf_bit, Bool.eq_iff_iff, behind_bit, Bool.and_eq_true, decide_eq_true_eq, decide_eq_true_eq, far_way, isP_iff (x := ((i : Nat) : Int))]
  constructor
  · rintro ⟨h1, h2, h3, h4⟩; exact ⟨h2, h1, h4⟩
  · rintro ⟨h1, h2, h3⟩; exact ⟨h2, h1, ⟨by omega, by omega⟩, h3⟩

/-! ### The laws -/
def hasV (s : Nat) (n : Int) : Bool := decide (0 ≤ n ∧ n < 64) && s.testBit n.toNat
theorem has_ahead {pn : Nat} {L : List Ch} {a b : Int} : hasV (reachV pn true L b) a = true ↔ isP pn a = true ∧ isP pn b = true ∧ Way pn L a.toNat b.toNat := by
  rw [hasV, Bool.and_eq_true, decide_eq_true_eq, ahead_bit, isP_iff (x := a)]
  constructor
  · rintro ⟨h1, h2, h3, h4⟩; exact ⟨⟨h1.1, by omega⟩, h2, h4⟩
  · rintro ⟨h1, h2, h3⟩; exact ⟨⟨h1.1, by omega⟩, h2, by omega, h3⟩
theorem has_behind {pn : Nat} {L : List Ch} {a b : Int} : hasV (reachV pn false L a) b = true ↔ isP pn a = true ∧ isP pn b = true ∧ Way pn L a.toNat b.toNat := by
  rw [hasV, Bool.and_eq_true, decide_eq_true_eq, behind_bit, isP_iff (x := b)]
  constructor
  · rintro ⟨h1, h2, h3, h4⟩; exact ⟨h2, ⟨h1.1, by omega⟩, h4⟩
  · rintro ⟨h1, h2, h3⟩; exact ⟨⟨h2.1, by omega⟩, h1, by omega, h3⟩
theorem turns1 (pn : Nat) (L : List Ch) (a b : Int) : hasV (reachV pn true L b) a = hasV (reachV pn false L a) b := by
  rw [Bool.eq_iff_iff, has_ahead, has_behind]
theorem turns2 (pn : Nat) (L : List Ch) (a b : Int) : hasV (reachV pn true L b) a = decide (0 ≤ farV pn L a b) := by
  rw [Bool.eq_iff_iff, has_ahead, decide_eq_true_eq, far_way]
theorem or_sub {x y : Nat} (h : ∀ i, x.testBit i = true → y.testBit i = true) : x ||| y = y := by
  apply Nat.eq_of_testBit_eq
  intro i
  rw [Nat.testBit_or]
  cases hx : x.testBit i with
  | false => rfl
  | true => rw [h i hx]; rfl
theorem turns3 (pn : Nat) (L : List Ch) (a b : Int) (h : hasV (reachV pn true L b) a = true) : reachV pn true L a ||| reachV pn true L b = reachV pn true L b := by
  refine or_sub fun i hi => ?_
  obtain ⟨h1, h2, h3⟩ := has_ahead.1 h
  rw [ahead_bit] at hi ⊢
  exact ⟨h2, hi.2.1, hi.2.2.trans hi.2.1 h3⟩
theorem least1 (pn : Nat) (L : List Ch) (a : Int) (h : isP pn a = true) : hasV (reachV pn true L a) a = true := has_ahead.2 ⟨h, h, Way.self _ _ _⟩
theorem least2 (pn : Nat) (L : List Ch) (a : Int) : closedV pn L (reachV pn true L a) = true := by
  rw [closedV, List.all_eq_true]
  intro e he
  have hin := edges_in e he
  cases h : (reachV pn true L a).testBit e.2 with
  | false => simp
  | true =>
    rw [ahead_bit] at h
    simp only [Bool.not_true, Bool.or_false]
    rw [ahead_bit]
    exact ⟨h.1, hin.1, Way.trans hin.1 ((D.step he).mono (by omega)) h.2.2⟩
theorem least3 (pn : Nat) (L : List Ch) (a : Int) (s : Nat) (h : hasV s a = true) (hc : closedV pn L s = true) : s ||| reachV pn true L a = s := by
  rw [Nat.or_comm]
  refine or_sub fun i hi => ?_
  rw [hasV, Bool.and_eq_true] at h
  rw [closedV, List.all_eq_true] at hc
  obtain ⟨h1, h2, h3⟩ := ahead_bit.1 hi
  have key : ∀ k v, D (edges pn true L) a.toNat k v → s.testBit v = true := by
    intro k
    induction k with
    | zero => intro v hv; rw [D] at hv; subst hv; exact h.2
    | succ k ih =>
      intro v hv
      rcases hv with hv | ⟨e, he, hv, rfl⟩
      · exact ih v hv
      · have he' : (e.2, e.1) ∈ edges pn false L := by
          have := edges_turn pn true L
          rw [Bool.not_true] at this
          rw [this]
          exact List.mem_map.2 ⟨e, he, rfl⟩
        have h5 := hc _ he'
        rw [ih _ hv] at h5
        simpa using h5
  exact key 64 i (D_turn.2 h3)
theorem near1 (pn : Nat) (L : List Ch) (a b c : Int) (hx : 0 ≤ farV pn L a b) (hy : 0 ≤ farV pn L b c) : 0 ≤ farV pn L a c ∧ farV pn L a c ≤ farV pn L a b + farV pn L b c := by
  have h1 := far_way.1 hx
  have h2 := far_way.1 hy
  have hpa := isP_iff.1 h1.1
  have hz : 0 ≤ farV pn L a c := far_way.2 ⟨h1.1, h2.2.1, h1.2.2.trans (by omega) h2.2.2⟩
  refine ⟨hz, Classical.byContradiction fun hn => ?_⟩
  obtain ⟨k, hk⟩ := Int.eq_ofNat_of_zero_le hx
  obtain ⟨l, hl⟩ := Int.eq_ofNat_of_zero_le hy
  obtain ⟨m, hm⟩ := Int.eq_ofNat_of_zero_le hz
  have q1 := far_dist.1 hk
  have q2 := far_dist.1 hl
  have q3 := far_dist.1 hm
  exact q3.2.2.2.2 (k + l) (by omega) (q1.2.2.2.1.add q2.2.2.2.1)
theorem D.more {es es' : List Edge} (h : ∀ e ∈ es, e ∈ es') {a : Nat} : ∀ {k b : Nat}, D es a k b → D es' a k b := by
  intro k
  induction k with
  | zero => intro b h; exact h
  | succ k ih =>
    intro b hd
    rcases hd with hd | ⟨e, he, hd, rfl⟩
    · exact .inl (ih hd)
    · exact .inr ⟨e, h e he, ih hd, rfl⟩
theorem edges_more (pn : Nat) (t : Bool) (L M : List Ch) : ∀ e ∈ edges pn t L, e ∈ edges pn t (L ++ M) := by
  intro e he
  unfold edges at he ⊢
  rw [List.filterMap_append]
  exact List.mem_append_left _ he
theorem near2 (pn : Nat) (L : List Ch) (m : Ch) (a c : Int) (hz : 0 ≤ farV pn L a c) : 0 ≤ farV pn (L ++ [m]) a c ∧ farV pn (L ++ [m]) a c ≤ farV pn L a c := by
  have h1 := far_way.1 hz
  have hn : 0 ≤ farV pn (L ++ [m]) a c := far_way.2 ⟨h1.1, h1.2.1, D.more (edges_more _ _ _ _) h1.2.2⟩
  refine ⟨hn, Classical.byContradiction fun hx => ?_⟩
  obtain ⟨k, hk⟩ := Int.eq_ofNat_of_zero_le hz
  obtain ⟨l, hl⟩ := Int.eq_ofNat_of_zero_le hn
  have q1 := far_dist.1 hk
  have q2 := far_dist.1 hl
  exact q2.2.2.2.2 k (by omega) (D.more (edges_more _ _ _ _) q1.2.2.2.1)
theorem near3 (pn : Nat) (L : List Ch) (m : Ch) (h : (isP pn m.2.1 && isP pn m.2.2.1) = true) : 0 ≤ farV pn (L ++ [m]) m.2.1 m.2.2.1 ∧ farV pn (L ++ [m]) m.2.1 m.2.2.1 ≤ 1 := by
  have h' := h
  rw [Bool.and_eq_true] at h'
  have he : (m.2.1.toNat, m.2.2.1.toNat) ∈ edges pn false (L ++ [m]) := by
    unfold edges
    rw [List.filterMap_append]
    refine List.mem_append_right _ ?_
    have : edge pn false m = some (m.2.1.toNat, m.2.2.1.toNat) := by unfold edge; rw [if_pos h]; rfl
    simp [this]
  have hs := D.step he
  have hn : 0 ≤ farV pn (L ++ [m]) m.2.1 m.2.2.1 := far_way.2 ⟨h'.1, h'.2, hs.mono (by omega)⟩
  refine ⟨hn, Classical.byContradiction fun hx => ?_⟩
  obtain ⟨l, hl⟩ := Int.eq_ofNat_of_zero_le hn
  exact (far_dist.1 hl).2.2.2.2 1 (by omega) hs
theorem near4 (pn : Nat) (L : List Ch) (a b : Int) (h : (isP pn a && isP pn b) = false) : farV pn L a b = -1 := by
  unfold farV; rw [h]; rfl
end GraP

end Go.Proofs.Ytmdagajbelfnoaa
