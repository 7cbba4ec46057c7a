
/-
  Plain facts on numbers and texts as bytes: what Put, Take, Fixed, TakeFixed, Sign and Signed compute, and the laws between them. No program in sight.
-/
namespace Go.Proofs.YtfcffglgkblidaaDoor.WireP

theorem small {n : Nat} (h : n < 128) : (UInt8.ofNat n).toNat = n := by simp [UInt8.toNat_ofNat']; omega
theorem big (n : Nat) : (UInt8.ofNat (n % 128 + 128)).toNat = n % 128 + 128 := by simp [UInt8.toNat_ofNat']; omega

/-- A number by sevens of its bits, the lowest ones first. -/
def putL (n : Nat) : List UInt8 :=
  if n < 128 then [UInt8.ofNat n] else UInt8.ofNat (n % 128 + 128) :: putL (n / 128)
termination_by n
decreasing_by omega

theorem putL_small {n : Nat} (h : n < 128) : putL n = [UInt8.ofNat n] := by rw [putL, if_pos h]
theorem putL_big {n : Nat} (h : ¬ n < 128) : putL n = UInt8.ofNat (n % 128 + 128) :: putL (n / 128) := by rw [putL, if_neg h]

/-- The number in front of the bytes, what is left, and the error's number: 'k' bytes may still come, 'i' have gone by, 'n' is what they told. -/
def takeGo : Nat → Nat → Nat → List UInt8 → Nat × List UInt8 × Int
  | 0, _, _, _ => (0, [], 6)
  | _ + 1, _, _, [] => (0, [], 4)
  | k + 1, i, n, c :: s =>
    if c.toNat < 128 then
      if i = 9 ∧ 1 < c.toNat then (0, [], 6)
      else if c.toNat = 0 ∧ 0 < i then (0, [], 3)
      else (n + c.toNat * 128 ^ i, s, 0)
    else takeGo k (i + 1) (n + (c.toNat - 128) * 128 ^ i) s

def takeL (l : List UInt8) : Nat × List UInt8 × Int := takeGo 10 0 0 l

theorem two63 : (128 : Nat) ^ 9 = 9223372036854775808 := by decide

theorem takeGo_put (s : List UInt8) : ∀ (k i m n : Nat), i + k = 10 → n * 128 ^ i < 2 * 128 ^ 9 → (0 < i → 0 < n) →
    takeGo k i m (putL n ++ s) = (m + n * 128 ^ i, s, 0) := by
  intro k
  induction k with
  | zero =>
    intro i m n hi hn h0
    have : i = 10 := by omega
    subst this
    have := h0 (by omega)
    have : 1 * 128 ^ 10 ≤ n * 128 ^ 10 := Nat.mul_le_mul_right _ this
    have e : (128 : Nat) ^ 10 = 128 * 128 ^ 9 := by decide
    omega
  | succ k ih =>
    intro i m n hi hn h0
    by_cases hs : n < 128
    · rw [putL_small hs]
      simp only [List.singleton_append, takeGo, small hs]
      have h9 : ¬ (i = 9 ∧ 1 < n) := by
        rintro ⟨rfl, h1⟩
        have : 2 * 128 ^ 9 ≤ n * 128 ^ 9 := Nat.mul_le_mul_right _ h1
        omega
      rw [if_pos hs, if_neg h9, if_neg (by omega)]
    · rw [putL_big hs]
      simp only [List.cons_append, takeGo, big]
      rw [if_neg (by omega)]
      have hpos : 0 < 128 ^ i := Nat.pow_pos (by decide)
      have hd : n = 128 * (n / 128) + n % 128 := by omega
      have hsplit : n * 128 ^ i = n / 128 * 128 ^ (i + 1) + n % 128 * 128 ^ i := by
        rw [Nat.pow_succ, ← Nat.mul_assoc, Nat.mul_right_comm, ← Nat.add_mul]
        congr 1; omega
      rw [ih (i + 1) _ (n / 128) (by omega) (by omega) (by intro _; omega)]
      rw [show n % 128 + 128 - 128 = n % 128 by omega, hsplit]
      simp only [Prod.mk.injEq, and_true]
      omega

theorem takeL_put (n : Nat) (s : List UInt8) (h : n < 18446744073709551616) : takeL (putL n ++ s) = (n, s, 0) := by
  have := takeGo_put s 10 0 0 n (by omega) (by rw [two63]; omega) (by omega)
  simpa [takeL] using this

theorem takeGo_back : ∀ (k i m : Nat) (l r : List UInt8) (b : Nat), i + k = 10 → m < 128 ^ i → takeGo k i m l = (b, r, 0) →
    ∃ n, b = m + n * 128 ^ i ∧ putL n ++ r = l ∧ (0 < i → 0 < n) ∧ b < 2 * 128 ^ 9 := by
  intro k
  induction k with
  | zero => intro i m l r b _ _ h; simp [takeGo] at h
  | succ k ih =>
    intro i m l r b hi hm h
    cases l with
    | nil => simp [takeGo] at h
    | cons c s =>
      have hc := c.toNat_lt
      simp only [takeGo] at h
      have hpos : 0 < 128 ^ i := Nat.pow_pos (by decide)
      by_cases h1 : c.toNat < 128
      · rw [if_pos h1] at h
        by_cases h2 : i = 9 ∧ 1 < c.toNat
        · rw [if_pos h2] at h; simp at h
        · rw [if_neg h2] at h
          by_cases h3 : c.toNat = 0 ∧ 0 < i
          · rw [if_pos h3] at h; simp at h
          · rw [if_neg h3] at h
            simp only [Prod.mk.injEq, and_true] at h
            obtain ⟨rfl, rfl⟩ := h
            refine ⟨c.toNat, rfl, ?_, by omega, ?_⟩
            · rw [putL_small h1]; simp
            · by_cases h9 : i = 9
              · subst h9
                have : c.toNat ≤ 1 := by omega
                have : c.toNat * 128 ^ 9 ≤ 1 * 128 ^ 9 := Nat.mul_le_mul_right _ this
                omega
              · have hi8 : i ≤ 8 := by omega
                have : c.toNat * 128 ^ i ≤ 127 * 128 ^ i := Nat.mul_le_mul_right _ (by omega)
                have hp : 128 ^ i ≤ 128 ^ 8 := Nat.pow_le_pow_right (by decide) hi8
                have e : (128 : Nat) ^ 9 = 128 * 128 ^ 8 := by decide
                omega
      · rw [if_neg h1] at h
        have hm' : m + (c.toNat - 128) * 128 ^ i < 128 ^ (i + 1) := by
          have : (c.toNat - 128) * 128 ^ i ≤ 127 * 128 ^ i := Nat.mul_le_mul_right _ (by omega)
          rw [Nat.pow_succ]; omega
        obtain ⟨n, hb, hp, hn, hlt⟩ := ih (i + 1) _ s r b (by omega) hm' h
        have hn0 := hn (by omega)
        refine ⟨n * 128 + (c.toNat - 128), ?_, ?_, by omega, hlt⟩
        · rw [hb, Nat.pow_succ, Nat.add_mul, Nat.mul_comm (128 ^ i) 128, ← Nat.mul_assoc]; omega
        · rw [putL_big (by omega), show (n * 128 + (c.toNat - 128)) / 128 = n by omega, show (n * 128 + (c.toNat - 128)) % 128 + 128 = c.toNat by omega]
          simp [hp]

theorem takeL_back (l r : List UInt8) (b : Nat) (h : takeL l = (b, r, 0)) : putL b ++ r = l ∧ b < 18446744073709551616 := by
  obtain ⟨n, hb, hp, _, hlt⟩ := takeGo_back 10 0 0 l r b (by omega) (by simp) h
  rw [two63] at hlt
  simp at hb
  subst hb
  exact ⟨hp, by omega⟩

/-- Where the taking stands: 'i' bytes have gone by, of which each had 128 more; they told m. -/
def At0 (l : List UInt8) (m i : Nat) : Prop := m < 128 ^ i ∧ takeL l = takeGo (10 - i) i m (l.drop i)
theorem At0.start (l : List UInt8) : At0 l 0 0 := ⟨by simp, rfl⟩
theorem At0.none {l : List UInt8} {m i : Nat} (h : At0 l m i) (hi : i < 10) (hl : i = l.length) : takeL l = (0, [], 4) := by
  rw [h.2, hl, List.drop_length]
  rw [show 10 - l.length = (9 - l.length) + 1 by omega]; rfl
theorem At0.full {l : List UInt8} {m : Nat} (h : At0 l m 10) : takeL l = (0, [], 6) := by rw [h.2]; rfl
theorem at_drop {l : List UInt8} {i : Nat} (hl : i < l.length) : l.drop i = l[i] :: l.drop (i + 1) := List.drop_eq_getElem_cons hl
theorem At0.step {l : List UInt8} {m i c : Nat} (h : At0 l m i) (hi : i < 10) (hl : i < l.length) (hc : (l[i]).toNat = c) (h1 : ¬ c < 128) : At0 l (m + c % 128 * 128 ^ i) (i + 1) := by
  have hc2 : c < 256 := by rw [← hc]; exact (l[i]).toNat_lt
  obtain ⟨hm, ht⟩ := h
  refine ⟨?_, ?_⟩
  · have : c % 128 * 128 ^ i ≤ 127 * 128 ^ i := Nat.mul_le_mul_right _ (by omega)
    rw [Nat.pow_succ]; omega
  · rw [ht, at_drop hl, show 10 - i = (9 - i) + 1 by omega, takeGo, if_neg (by rw [hc]; omega), hc, show c - 128 = c % 128 by omega, show 10 - (i + 1) = 9 - i by omega]
theorem At0.stop {l : List UInt8} {m i c : Nat} (h : At0 l m i) (hi : i < 10) (hl : i < l.length) (hc : (l[i]).toNat = c) (h1 : c < 128) :
    takeL l = if i = 9 ∧ 1 < c then (0, [], 6) else if c = 0 ∧ 0 < i then (0, [], 3) else (m + c * 128 ^ i, l.drop (i + 1), 0) := by
  rw [h.2, at_drop hl, show 10 - i = (9 - i) + 1 by omega, takeGo, if_pos (by rw [hc]; omega), hc]
theorem At0.room {l : List UInt8} {m i d : Nat} (h : At0 l m i) (hi : i < 10) (hd : d < 128) (h9 : i = 9 → d ≤ 1) : m + d * 128 ^ i < 18446744073709551616 := by
  have hm := h.1
  by_cases h8 : i = 9
  · subst h8
    have : d * 128 ^ 9 ≤ 1 * 128 ^ 9 := Nat.mul_le_mul_right _ (h9 rfl)
    rw [two63] at *; omega
  · have : d * 128 ^ i ≤ 127 * 128 ^ i := Nat.mul_le_mul_right _ (by omega)
    have hp : 128 ^ i ≤ 128 ^ 8 := Nat.pow_le_pow_right (by decide) (by omega)
    have e : (128 : Nat) ^ 8 = 72057594037927936 := by decide
    omega

/-- Which errors there are, and that beside an error all else is nothing. -/
theorem takeGo_err : ∀ (k i m : Nat) (l : List UInt8), (takeGo k i m l).2.2 = 0 ∨ (takeGo k i m l = (0, [], 6) ∨ takeGo k i m l = (0, [], 4) ∨ takeGo k i m l = (0, [], 3)) := by
  intro k
  induction k with
  | zero => intro i m l; right; left; rfl
  | succ k ih =>
    intro i m l
    cases l with
    | nil => right; right; left; rfl
    | cons c s =>
      simp only [takeGo]
      split
      · split
        · right; left; rfl
        · split
          · right; right; right; rfl
          · left; rfl
      · exact ih _ _ _

theorem putL_pos (n : Nat) : 1 ≤ (putL n).length := by
  by_cases h : n < 128
  · rw [putL_small h]; simp
  · rw [putL_big h]; simp

theorem putL_le : ∀ (k n : Nat), n < 128 ^ (k + 1) → (putL n).length ≤ k + 1 := by
  intro k
  induction k with
  | zero => intro n h; rw [putL_small (by simpa using h)]; simp
  | succ k ih =>
    intro n h
    by_cases hs : n < 128
    · rw [putL_small hs]; simp
    · rw [putL_big hs]
      have := ih (n / 128) (by rw [Nat.pow_succ] at h; omega)
      simp only [List.length_cons]; omega

theorem putL_le10 (n : Nat) (h : n < 18446744073709551616) : (putL n).length ≤ 10 :=
  putL_le 9 n (by have e : (128 : Nat) ^ (9 + 1) = 1180591620717411303424 := by decide
                  rw [e]; omega)

theorem putL_mono : ∀ (b a : Nat), a ≤ b → (putL a).length ≤ (putL b).length := by
  intro b
  induction b using Nat.strongRecOn with
  | ind b ih =>
    intro a hab
    by_cases ha : a < 128
    · rw [putL_small ha]; exact putL_pos b
    · rw [putL_big ha, putL_big (n := b) (by omega)]
      have := ih (b / 128) (by omega) (a / 128) (by omega)
      simp only [List.length_cons]; omega

theorem putL_front (a b : Nat) (s t : List UInt8) (ha : a < 18446744073709551616) (hb : b < 18446744073709551616) (h : putL a ++ s = putL b ++ t) : a = b ∧ s = t := by
  have h1 := takeL_put a s ha
  rw [h, takeL_put b t hb] at h1
  simp only [Prod.mk.injEq, and_true] at h1
  exact ⟨h1.1.symm, h1.2.symm⟩

theorem putL_inj (a b : Nat) (ha : a < 18446744073709551616) (hb : b < 18446744073709551616) (h : putL a = putL b) : a = b :=
  (putL_front a b [] [] ha hb (by rw [h])).1

/-- No one's bytes are the beginning of another one's. -/
theorem putL_free (a b : Nat) (ha : a < 18446744073709551616) (hb : b < 18446744073709551616) (n : Nat) (hn : n = min (putL a).length (putL b).length)
    (h : (putL a).take n = (putL b).take n) : a = b := by
  rcases Nat.le_total (putL a).length (putL b).length with hl | hl
  · have e : n = (putL a).length := by omega
    rw [e, List.take_length] at h
    refine (putL_front a b ((putL b).drop n) [] ha hb ?_).1
    rw [h, ← e, List.take_append_drop, List.append_nil]
  · have e : n = (putL b).length := by omega
    rw [e, List.take_length] at h
    refine (putL_front a b [] ((putL a).drop n) ha hb ?_).1
    rw [← h, ← e, List.append_nil, List.take_append_drop]

/-! ### signs -/
def sign (n : Int) : Int := if 0 ≤ n then 2 * n else 2 * (-(n + 1)) + 1
def signed (n : Int) : Int := if n % 2 = 0 then n / 2 else -(n / 2) - 1
theorem sign_bounds (n : Int) (h1 : -9223372036854775808 ≤ n) (h2 : n ≤ 9223372036854775807) : 0 ≤ sign n ∧ sign n ≤ 18446744073709551615 := by
  unfold sign; split <;> omega
theorem signed_bounds (n : Int) (h1 : 0 ≤ n) (h2 : n ≤ 18446744073709551615) : -9223372036854775808 ≤ signed n ∧ signed n ≤ 9223372036854775807 := by
  unfold signed; split <;> omega
theorem signed_sign (n : Int) : signed (sign n) = n := by unfold signed sign; split <;> split <;> omega
theorem sign_signed (n : Int) (h : 0 ≤ n) : sign (signed n) = n := by unfold signed sign; split <;> split <;> omega
theorem sign_near (k j : Int) (h : (0 ≤ k ∧ k ≤ j) ∨ (k < 0 ∧ j ≤ k)) : sign k ≤ sign j := by unfold sign; split <;> split <;> omega

/-! ### numbers of a width -/
def fixedL (n : Nat) : Nat → List UInt8
  | 0 => []
  | w + 1 => UInt8.ofNat (n / 256 ^ w) :: fixedL n w
def numOf (l : List UInt8) : Nat := l.foldl (fun n c => n * 256 + c.toNat) 0
theorem fixedL_length (n w : Nat) : (fixedL n w).length = w := by induction w with
  | zero => rfl
  | succ w ih => simp [fixedL, ih]
theorem foldl_num (l : List UInt8) (m : Nat) : l.foldl (fun n c => n * 256 + c.toNat) m = m * 256 ^ l.length + numOf l := by
  unfold numOf
  induction l generalizing m with
  | nil => simp
  | cons c l ih =>
    simp only [List.foldl_cons, List.length_cons]
    rw [ih, ih (0 * 256 + c.toNat), Nat.pow_succ, Nat.add_mul, Nat.mul_assoc, Nat.mul_comm 256, Nat.zero_mul, Nat.zero_add]
    omega
theorem numOf_cons (c : UInt8) (l : List UInt8) : numOf (c :: l) = c.toNat * 256 ^ l.length + numOf l := by
  have := foldl_num l (0 * 256 + c.toNat)
  simpa [numOf] using this
theorem numOf_snoc (l : List UInt8) (c : UInt8) : numOf (l ++ [c]) = numOf l * 256 + c.toNat := by simp [numOf]
theorem numOf_lt (l : List UInt8) : numOf l < 256 ^ l.length := by
  induction l with
  | nil => decide
  | cons c l ih =>
    have hc := c.toNat_lt
    rw [numOf_cons, List.length_cons, Nat.pow_succ]
    have : c.toNat * 256 ^ l.length ≤ 255 * 256 ^ l.length := Nat.mul_le_mul_right _ (by omega)
    omega
theorem numOf_fixed (n w : Nat) : numOf (fixedL n w) = n % 256 ^ w := by
  induction w with
  | zero => simp [fixedL, numOf, Nat.mod_one]
  | succ w ih =>
    rw [fixedL, numOf_cons, fixedL_length, ih, UInt8.toNat_ofNat']
    have h256 : (2 : Nat) ^ 8 = 256 := by decide
    rw [h256, Nat.pow_succ, Nat.mod_mul, Nat.mul_comm (256 ^ w)]
    omega
theorem fixed_congr (n m w : Nat) (h : n % 256 ^ w = m % 256 ^ w) : fixedL n w = fixedL m w := by
  induction w with
  | zero => rfl
  | succ w ih =>
    have hd : ∀ x : Nat, x % 256 ^ (w + 1) % 256 ^ w = x % 256 ^ w := fun x => by rw [Nat.pow_succ, Nat.mod_mul_right_mod]
    have hq : ∀ x : Nat, x / 256 ^ w % 256 = x % 256 ^ (w + 1) / 256 ^ w := fun x => by rw [Nat.pow_succ, Nat.mod_mul_right_div_self]
    rw [fixedL, fixedL, ih (by rw [← hd n, ← hd m, h])]
    congr 1
    apply UInt8.toNat_inj.1
    have h256 : (2 : Nat) ^ 8 = 256 := by decide
    rw [UInt8.toNat_ofNat', UInt8.toNat_ofNat', h256, hq, hq, h]
theorem fixed_mod (n w : Nat) : fixedL (n % 256 ^ w) w = fixedL n w := fixed_congr _ _ _ (by simp)

end Go.Proofs.YtfcffglgkblidaaDoor.WireP
