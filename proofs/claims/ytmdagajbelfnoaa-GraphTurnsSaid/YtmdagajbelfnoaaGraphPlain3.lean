/-
  Plain laws of layer 24: how far it is, by rounds over a table.
-/
import Derived.Test.YtmdagajbelfnoaaGraphPlain2
namespace Go.Proofs.Ytmdagajbelfnoaa

namespace GraP
theorem it_mono {es : List Edge} {a k m v : Nat} (h : (it es a k).testBit v = true) (hk : k ≤ m) : (it es a m).testBit v = true := (it_bit es a m v).2 (((it_bit es a k v).1 h).mono hk)
/-- How far v is from a, by ways of at most n channels; -1: there is none. -/
def dst (es : List Edge) (a : Nat) : Nat → Nat → Int
  | 0, v => if v = a then 0 else -1
  | n + 1, v => if dst es a n v < 0 ∧ (it es a (n + 1)).testBit v = true then ((n + 1 : Nat) : Int) else dst es a n v
theorem dst_ge (es : List Edge) (a : Nat) : ∀ n v, -1 ≤ dst es a n v ∧ dst es a n v ≤ n := by
  intro n
  induction n with
  | zero => intro v; rw [dst]; split <;> omega
  | succ n ih => intro v; rw [dst]; have := ih v; split <;> omega
theorem dst_bit (es : List Edge) (a : Nat) : ∀ n v, 0 ≤ dst es a n v ↔ (it es a n).testBit v = true := by
  intro n
  induction n with
  | zero => intro v; rw [dst, it, Nat.testBit_two_pow]; split <;> simp <;> omega
  | succ n ih =>
    intro v
    rw [dst]
    have h1 := ih v
    have h2 := dst_ge es a n v
    split
    · rename_i h; simp [h.2]; omega
    · rename_i h
      constructor
      · intro h3; exact it_mono (h1.1 h3) (Nat.le_succ n)
      · intro h3
        exact Classical.byContradiction fun h4 => h ⟨by omega, h3⟩
/-- It is the least. -/
theorem dst_val (es : List Edge) (a : Nat) : ∀ n v (k : Nat), dst es a n v = k ↔ k ≤ n ∧ (it es a k).testBit v = true ∧ ∀ m, m < k → (it es a m).testBit v = false := by
  intro n
  induction n with
  | zero =>
    intro v k
    rw [dst]
    constructor
    · intro h
      split at h
      · rename_i hv
        obtain rfl : k = 0 := by omega
        exact ⟨Nat.le_refl _, by rw [it, Nat.testBit_two_pow]; simp [hv], fun m hm => by omega⟩
      · omega
    · rintro ⟨h1, h2, -⟩
      obtain rfl : k = 0 := by omega
      rw [it, Nat.testBit_two_pow] at h2
      rw [if_pos (by simpa using Eq.symm (of_decide_eq_true h2))]
      rfl
  | succ n ih =>
    intro v k
    rw [dst]
    have hb := dst_bit es a n v
    have hg := dst_ge es a n v
    split
    · rename_i h
      constructor
      · intro h3
        obtain rfl : k = n + 1 := by omega
        refine ⟨Nat.le_refl _, h.2, fun m hm => ?_⟩
        cases hq : (it es a m).testBit v with
        | false => rfl
        | true => have := hb.2 (it_mono hq (by omega)); omega
      · rintro ⟨h1, h2, h3⟩
        have : k = n + 1 := Classical.byContradiction fun hne => by
          have := hb.2 (it_mono h2 (by omega)); omega
        omega
    · rename_i h
      rw [ih]
      constructor
      · rintro ⟨h1, h2, h3⟩; exact ⟨by omega, h2, h3⟩
      · rintro ⟨h1, h2, h3⟩
        refine ⟨Classical.byContradiction fun hn => ?_, h2, h3⟩
        obtain rfl : k = n + 1 := by omega
        have h4 : (it es a n).testBit v = false := h3 n (by omega)
        exact h ⟨Classical.byContradiction (fun h5 => by (rw [hb.1 (by omega)] at h4; cases h4)), h2⟩
/-- One channel of a round over the table F. -/
def rstep (n : Nat) (F : List Int) (e : Edge) : List Int := if F.getD e.1 0 = n ∧ F.getD e.2 0 < 0 then F.set e.2 ((n : Int) + 1) else F
def tab (es : List Edge) (a n len : Nat) : List Int := (List.range len).map (dst es a n)
def mid (es : List Edge) (a n len : Nat) (l : List Edge) : List Int := (List.range len).map (fun v => if dst es a n v < 0 ∧ ∃ e ∈ l, dst es a n e.1 = n ∧ e.2 = v then (n : Int) + 1 else dst es a n v)
theorem rstep_len (n : Nat) (F : List Int) (e : Edge) : (rstep n F e).length = F.length := by unfold rstep; split <;> simp
theorem rsteps_len (n : Nat) : ∀ (l : List Edge) (F : List Int), (l.foldl (rstep n) F).length = F.length := by
  intro l
  induction l with
  | nil => intro F; rfl
  | cons e l ih => intro F; rw [List.foldl_cons, ih, rstep_len]
theorem mid_get {es : List Edge} {a n len : Nat} {l : List Edge} {v : Nat} (hv : v < len) : (mid es a n len l).getD v 0 = (if dst es a n v < 0 ∧ ∃ e ∈ l, dst es a n e.1 = n ∧ e.2 = v then (n : Int) + 1 else dst es a n v) := by
  unfold mid
  rw [List.getD_eq_getElem?_getD, List.getElem?_map, List.getElem?_range hv]
  rfl
theorem ite_iff {α : Type} {c d : Prop} [Decidable c] [Decidable d] {x y : α} (h : c ↔ d) : (if c then x else y) = if d then x else y := by
  by_cases hc : c
  · rw [if_pos hc, if_pos (h.1 hc)]
  · rw [if_neg hc, if_neg (fun k => hc (h.2 k))]
theorem ite_is {c : Prop} [Decidable c] {d : Int} {n : Nat} (h : c → d < 0) : (if c then (n : Int) + 1 else d) = n ↔ d = n := by
  split
  · rename_i hc; have := h hc; omega
  · exact Iff.rfl
theorem ite_neg {c : Prop} [Decidable c] {d : Int} {n : Nat} : (if c then (n : Int) + 1 else d) < 0 ↔ d < 0 ∧ ¬ c := by
  split
  · rename_i hc; simp [hc]; omega
  · rename_i hc; simp [hc]
theorem mid_step {es : List Edge} {a n len : Nat} (l : List Edge) (e : Edge) (he : e.1 < len ∧ e.2 < len) : rstep n (mid es a n len l) e = mid es a n len (l ++ [e]) := by
  have hC : (((mid es a n len l).getD e.1 0 = n ∧ (mid es a n len l).getD e.2 0 < 0) ↔ (dst es a n e.1 = n ∧ dst es a n e.2 < 0 ∧ ¬ (∃ e' ∈ l, dst es a n e'.1 = n ∧ e'.2 = e.2))) := by
    rw [mid_get he.1, mid_get he.2, ite_is (fun h => h.1), ite_neg]
    constructor
    · rintro ⟨h1, h2, h3⟩; exact ⟨h1, h2, fun h => h3 ⟨h2, h⟩⟩
    · rintro ⟨h1, h2, h3⟩; exact ⟨h1, h2, fun h => h3 h.2⟩
  unfold rstep
  rw [ite_iff hC]
  have hlen : (mid es a n len l).length = len := by simp [mid]
  apply List.ext_getElem?
  intro v
  by_cases hv : v < len
  · have hR : ∀ l : List Edge, (mid es a n len l)[v]? = some (if dst es a n v < 0 ∧ ∃ e' ∈ l, dst es a n e'.1 = n ∧ e'.2 = v then (n : Int) + 1 else dst es a n v) := by
      intro l; unfold mid; rw [List.getElem?_map, List.getElem?_range hv]; rfl
    rw [hR]
    by_cases hc : dst es a n e.1 = n ∧ dst es a n e.2 < 0 ∧ ¬ (∃ e' ∈ l, dst es a n e'.1 = n ∧ e'.2 = e.2)
    · rw [if_pos hc, List.getElem?_set]
      by_cases hev : e.2 = v
      · subst hev
        rw [if_pos rfl, if_pos (by rw [hlen]; exact hv), if_pos ⟨hc.2.1, e, by simp, hc.1, rfl⟩]
      · rw [if_neg hev, hR]
        congr 1
        refine ite_iff ⟨?_, ?_⟩
        · rintro ⟨q1, e', q2, q3, q4⟩; exact ⟨q1, e', by simp [q2], q3, q4⟩
        · rintro ⟨q1, e', q2, q3, q4⟩
          rcases List.mem_append.1 q2 with q2 | q2
          · exact ⟨q1, e', q2, q3, q4⟩
          · simp only [List.mem_singleton] at q2; subst q2; exact absurd q4 hev
    · rw [if_neg hc, hR]
      congr 1
      refine ite_iff ⟨?_, ?_⟩
      · rintro ⟨q1, e', q2, q3, q4⟩; exact ⟨q1, e', by simp [q2], q3, q4⟩
      · rintro ⟨q1, e', q2, q3, q4⟩
        rcases List.mem_append.1 q2 with q2 | q2
        · exact ⟨q1, e', q2, q3, q4⟩
        · simp only [List.mem_singleton] at q2
          subst q2
          subst q4
          exact Classical.byContradiction fun hn => hc ⟨q3, q1, fun h => hn ⟨q1, h⟩⟩
  · have hout : ∀ l : List Edge, (mid es a n len l)[v]? = none := fun l => List.getElem?_eq_none (by simp [mid]; omega)
    rw [hout]
    split
    · rw [List.getElem?_set, hout]; split
      · rename_i h; rw [if_neg (by rw [hlen]; omega)]
      · rfl
    · exact hout l
theorem mid_nil (es : List Edge) (a n len : Nat) : mid es a n len [] = tab es a n len := by
  unfold mid tab; simp
theorem mid_all (es : List Edge) (a n len : Nat) : mid es a n len es = tab es a (n + 1) len := by
  unfold mid tab
  apply List.map_congr_left
  intro v _
  rw [dst]
  have hg := dst_ge es a n v
  have hb := dst_bit es a n v
  refine (ite_iff ⟨?_, ?_⟩).trans rfl
  · rintro ⟨h1, e, h2, h3, h4⟩
    refine ⟨h1, (fur_bit es _ v).2 (.inr ⟨e, h2, ?_, h4⟩)⟩
    exact ((dst_val es a n e.1 n).1 h3).2.1
  · rintro ⟨h1, h2⟩
    refine ⟨h1, ?_⟩
    rcases (fur_bit es _ v).1 h2 with h3 | ⟨e, h3, h4, h5⟩
    · exact absurd (hb.2 h3) (by omega)
    · refine ⟨e, h3, (dst_val es a n e.1 n).2 ⟨Nat.le_refl _, h4, fun m hm => ?_⟩, h5⟩
      cases hq : (it es a m).testBit e.1 with
      | false => rfl
      | true =>
        have h6 : (it es a (m + 1)).testBit v = true := (fur_bit es _ v).2 (.inr ⟨e, h3, hq, h5⟩)
        have := hb.2 (it_mono h6 (by omega))
        omega
theorem round_tab {es : List Edge} {a n len : Nat} (hes : ∀ e ∈ es, e.1 < len ∧ e.2 < len) : es.foldl (rstep n) (tab es a n len) = tab es a (n + 1) len := by
  have key : ∀ (l pre : List Edge), (∀ e ∈ l, e.1 < len ∧ e.2 < len) → l.foldl (rstep n) (mid es a n len pre) = mid es a n len (pre ++ l) := by
    intro l
    induction l with
    | nil => intro pre _; simp
    | cons e l ih =>
      intro pre h
      rw [List.foldl_cons, mid_step pre e (h e List.mem_cons_self), ih _ (fun x hx => h x (List.mem_cons_of_mem _ hx)), List.append_assoc, List.singleton_append]
  rw [← mid_nil, key es [] hes, List.nil_append, mid_all]
/-- It stands still behind as many rounds as there are partitions. -/
theorem it_full {es : List Edge} {a len : Nat} (hes : ∀ e ∈ es, e.1 < len ∧ e.2 < len) (ha : a < len) (hl : len ≤ 64) : ∀ m, len ≤ m → it es a m = it es a len := by
  have hlt : ∀ k, it es a k < 2 ^ 64 := by
    intro k
    induction k with
    | zero => exact Nat.pow_lt_pow_right (by decide) (by omega)
    | succ k ih =>
      refine Nat.lt_pow_two_of_testBit _ fun i hi => ?_
      cases hq : (it es a (k + 1)).testBit i with
      | false => rfl
      | true =>
        rcases (fur_bit es _ i).1 hq with h3 | ⟨e, h3, h4, h5⟩
        · rw [Nat.testBit_lt_two_pow (Nat.lt_of_lt_of_le ih (Nat.pow_le_pow_right (by decide) hi))] at h3; cases h3
        · have := (hes e h3).2; omega
  have hin : ∀ k v, (it es a k).testBit v = true → v < len := by
    intro k
    induction k with
    | zero => intro v h; rw [it, Nat.testBit_two_pow] at h; have := of_decide_eq_true h; omega
    | succ k ih =>
      intro v h
      rcases (fur_bit es _ v).1 h with h3 | ⟨e, h3, h4, h5⟩
      · exact ih v h3
      · have := (hes e h3).2; omega
  have hc : ∀ k, cnt (it es a k) ≤ len := by
    intro k
    unfold cnt
    have h1 : (List.range 64).countP (fun i => (it es a k).testBit i) ≤ (List.range 64).countP (fun i => decide (i < len)) := count_le (fun x hx => by simpa using hin k x hx) _
    have h2 : ∀ n, (List.range n).countP (fun i => decide (i < len)) ≤ len := by
      intro n
      have h3 : ∀ n, (List.range n).countP (fun i => decide (i < len)) = min n len := by
        intro n
        induction n with
        | zero => simp
        | succ n ih => rw [List.range_succ, List.countP_append, ih]; simp; split <;> omega
      rw [h3]; omega
    exact Nat.le_trans h1 (h2 64)
  have hpos : 1 ≤ cnt (it es a 0) := by
    unfold cnt
    refine List.countP_pos_iff.2 ⟨a, List.mem_range.2 (by omega), ?_⟩
    rw [it, Nat.testBit_two_pow]; simp
  have hstop : ∃ k, k < len ∧ it es a (k + 1) = it es a k := by
    refine Classical.byContradiction fun hn => ?_
    have hg : ∀ k, k ≤ len → k + 1 ≤ cnt (it es a k) := by
      intro k
      induction k with
      | zero => intro _; omega
      | succ k ih =>
        intro hk
        have h1 := ih (by omega)
        have h2 := fur_grow (es := es) (s := it es a k) (hlt (k + 1)) (fun h => hn ⟨k, by omega, h⟩)
        have h3 : it es a (k + 1) = fur es (it es a k) := rfl
        rw [h3]; omega
    have := hg len (Nat.le_refl _)
    have := hc len
    omega
  obtain ⟨k, h1, h2⟩ := hstop
  intro m hm
  rw [it_stop h2 m (by omega), it_stop h2 len (by omega)]
end GraP

end Go.Proofs.Ytmdagajbelfnoaa
