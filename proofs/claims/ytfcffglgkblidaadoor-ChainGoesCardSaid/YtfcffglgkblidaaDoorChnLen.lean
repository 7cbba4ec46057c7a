
/-
  Layer 9, plain: batches that tell the sum of the one ahead.
-/
import Derived.Test.YtfcffglgkblidaaDoorBatPlain
import Derived.Test.YtfcffglgkblidaaDoorDigPlain2
namespace Go.Proofs.YtfcffglgkblidaaDoor
set_option linter.unusedVariables false
set_option linter.unusedSimpArgs false
namespace ChnP
abbrev Ev := EvP.Ev
abbrev Bs := List UInt8
theorem of_len (l : List UInt8) : (DigP.of l).length = 32 := (show ∀ v, (DigP.bytesOf v).length = 32 from fun v => by simp [DigP.bytesOf]) _
def firstOf (l : List Ev) : Int := (l.getD 0 EvP.zero).1
def link (p : Bs) (l : List Ev) : (BatP.Ba × Bs) × Int := if BatP.isB (firstOf l, l, p) = true then (((firstOf l, l, p), BatP.outL (firstOf l, l, p)), 0) else ((BatP.zeroB, []), 1)
def nxt (f : Int) (n : Nat) : Int := (f + (n : Int)) % 18446744073709551616
def one (a : Bs) (f : Int) (s : Bs) : (List Ev × (Bs × Int)) × Int :=
  if (BatP.getB s).2 ≠ 0 then (([], BatP.zeros, 0), (BatP.getB s).2)
  else if (BatP.getB s).1.2 < s.length then (([], BatP.zeros, 0), 3)
  else if (BatP.getB s).1.1.2.2 ≠ a ∨ (BatP.getB s).1.1.1 ≠ f then (([], BatP.zeros, 0), 11)
  else (((BatP.getB s).1.1.2.1, DigP.of s, nxt f (BatP.getB s).1.1.2.1.length), 0)
def chk : Bs → Int → List Bs → List Ev → (List Ev × Bs) × Int
  | a, f, [], t => ((t, a), 0)
  | a, f, s :: r, t => if (one a f s).2 ≠ 0 then (([], BatP.zeros), (one a f s).2) else chk (one a f s).1.2.1 (one a f s).1.2.2 r (t ++ (one a f s).1.1)
/-- Rows from their ends. -/
def clash : List Bs → List Bs → (Bs × Bs) × Bool
  | x :: a, y :: b => if x = y then clash a b else ((x, y), decide (DigP.of x = DigP.of y))
  | _, _ => (([], []), false)
def cut (n : Int) (l : List Ev) : Nat := (min (max n 1) (l.length : Int)).toNat
def rowsL : Bs → List Ev → List Int → List Bs
  | a, l, [] => []
  | a, l, n :: r => if l = [] then [] else if (link a (l.take (cut n l))).2 ≠ 0 then [] else (link a (l.take (cut n l))).1.2 :: rowsL (DigP.of (link a (l.take (cut n l))).1.2) (l.drop (cut n l)) r

/-- The texts l, from the sum a and the number f on, have the events T and end with the sum d. -/
def Lk : Bs → Int → List Bs → List Ev → Bs → Prop
  | a, f, [], T, d => T = [] ∧ d = a
  | a, f, s :: r, T, d => ∃ b : BatP.Ba, ∃ T' : List Ev, BatP.getB s = ((b, s.length), 0) ∧ b.2.2 = a ∧ b.1 = f ∧ BatP.isB b = true ∧ Lk (DigP.of s) (nxt f b.2.1.length) r T' d ∧ T = b.2.1 ++ T'

theorem one_yes {a : Bs} {f : Int} {s : Bs} (h : (one a f s).2 = 0) : ∃ b : BatP.Ba, BatP.getB s = ((b, s.length), 0) ∧ b.2.2 = a ∧ b.1 = f ∧ BatP.isB b = true ∧ one a f s = ((b.2.1, DigP.of s, nxt f b.2.1.length), 0) := by
  rcases hX : BatP.getB s with ⟨⟨b, n⟩, er⟩
  unfold one at h ⊢
  rw [hX] at h ⊢
  dsimp only at h ⊢
  split at h
  · rename_i h0; exact absurd h h0
  rename_i h0
  split at h
  · have h9 : (3 : Int) = 0 := h
    omega
  rename_i h1
  split at h
  · have h9 : (11 : Int) = 0 := h
    omega
  rename_i h2
  have h0' : er = 0 := Decidable.not_not.1 h0
  subst h0'
  obtain ⟨b1, b2, b3, b4, b5⟩ := BatP.get_back hX
  have hn : n = s.length := by omega
  subst hn
  have h3 : b.2.2 = a := Decidable.not_not.1 fun hh => h2 (Or.inl hh)
  have h4 : b.1 = f := Decidable.not_not.1 fun hh => h2 (Or.inr hh)
  refine ⟨b, rfl, h3, h4, b1, ?_⟩
  rw [if_neg h0, if_neg h1, if_neg h2]
theorem one_of {a : Bs} {f : Int} {s : Bs} {b : BatP.Ba} (h : BatP.getB s = ((b, s.length), 0)) (h1 : b.2.2 = a) (h2 : b.1 = f) : one a f s = ((b.2.1, DigP.of s, nxt f b.2.1.length), 0) := by
  unfold one
  rw [h]
  dsimp only
  rw [if_neg (by simp), if_neg (by omega), if_neg (by simp [h1, h2])]
theorem chk_lk : ∀ (l : List Bs) (a : Bs) (f : Int) (t : List Ev), (chk a f l t).2 = 0 → ∃ T d, chk a f l t = ((t ++ T, d), 0) ∧ Lk a f l T d
  | [], a, f, t, h => ⟨[], a, by rw [chk, List.append_nil], rfl, rfl⟩
  | s :: r, a, f, t, h => by
    rw [chk] at h ⊢
    by_cases h0 : (one a f s).2 ≠ 0
    · rw [if_pos h0] at h; exact absurd h h0
    · rw [if_neg h0] at h ⊢
      obtain ⟨b, b1, b2, b3, b4, b5⟩ := one_yes (Decidable.not_not.1 h0)
      rw [b5] at h ⊢
      dsimp only at h ⊢
      obtain ⟨T, d, q1, q2⟩ := chk_lk r _ _ _ h
      exact ⟨b.2.1 ++ T, d, by rw [q1, List.append_assoc], b, T, b1, b2, b3, b4, q2, rfl⟩
theorem chk_er {a : Bs} {f : Int} {s : Bs} {r : List Bs} {T : List Ev} {b : BatP.Ba} {n : Nat} {er : Int} (h : BatP.getB s = ((b, n), er)) (he : er ≠ 0) : chk a f (s :: r) T = (([], BatP.zeros), er) := by
  have h1 : one a f s = (([], BatP.zeros, 0), er) := by unfold one; rw [h]; dsimp only; rw [if_pos he]
  rw [chk, h1]; dsimp only; rw [if_pos he]
theorem chk_form {a : Bs} {f : Int} {s : Bs} {r : List Bs} {T : List Ev} {b : BatP.Ba} {n : Nat} (h : BatP.getB s = ((b, n), 0)) (hm : n < s.length) : chk a f (s :: r) T = (([], BatP.zeros), 3) := by
  have h1 : one a f s = (([], BatP.zeros, 0), 3) := by unfold one; rw [h]; dsimp only; rw [if_neg (by simp), if_pos hm]
  rw [chk, h1]; dsimp only; rw [if_pos (by decide)]
theorem chk_chain {a : Bs} {f : Int} {s : Bs} {r : List Bs} {T : List Ev} {b : BatP.Ba} {n : Nat} (h : BatP.getB s = ((b, n), 0)) (hm : ¬ n < s.length) (hc : b.2.2 ≠ a ∨ b.1 ≠ f) : chk a f (s :: r) T = (([], BatP.zeros), 11) := by
  have h1 : one a f s = (([], BatP.zeros, 0), 11) := by unfold one; rw [h]; dsimp only; rw [if_neg (by simp), if_neg hm, if_pos hc]
  rw [chk, h1]; dsimp only; rw [if_pos (by decide)]
theorem chk_next {a : Bs} {f : Int} {s : Bs} {r : List Bs} {T : List Ev} {b : BatP.Ba} {n : Nat} (h : BatP.getB s = ((b, n), 0)) (hm : ¬ n < s.length) (h1 : b.2.2 = a) (h2 : b.1 = f) : chk a f (s :: r) T = chk (DigP.of s) (nxt f b.2.1.length) r (T ++ b.2.1) := by
  have h1 : one a f s = ((b.2.1, DigP.of s, nxt f b.2.1.length), 0) := by unfold one; rw [h]; dsimp only; rw [if_neg (by simp), if_neg hm, if_neg (by simp [h1, h2])]
  rw [chk, h1]; dsimp only; rw [if_neg (by simp)]
theorem lk_chk : ∀ (l : List Bs) (a : Bs) (f : Int) (t T : List Ev) (d : Bs), Lk a f l T d → chk a f l t = ((t ++ T, d), 0)
  | [], a, f, t, T, d, h => by obtain ⟨rfl, rfl⟩ := h; rw [chk, List.append_nil]
  | s :: r, a, f, t, T, d, h => by
    obtain ⟨b, T', b1, b2, b3, b4, b5, rfl⟩ := h
    rw [chk, one_of b1 b2 b3]
    dsimp only
    rw [if_neg (by simp), lk_chk r _ _ _ _ _ b5, List.append_assoc]
theorem nxt_nxt (f : Int) (m n : Nat) : nxt (nxt f m) n = nxt f (m + n) := by unfold nxt; omega
theorem nxt_zero {f : Int} (h : 0 ≤ f ∧ f < 18446744073709551616) : nxt f 0 = f := by unfold nxt; omega
theorem nxt_in (f : Int) (n : Nat) : 0 ≤ nxt f n ∧ nxt f n < 18446744073709551616 := by unfold nxt; omega
theorem lk_app : ∀ (l m : List Bs) (a : Bs) (f : Int) (T : List Ev) (d : Bs), 0 ≤ f ∧ f < 18446744073709551616 → Lk a f (l ++ m) T d → ∃ T1 d1 T2, Lk a f l T1 d1 ∧ Lk d1 (nxt f T1.length) m T2 d ∧ T = T1 ++ T2
  | [], m, a, f, T, d, hf, h => ⟨[], a, T, ⟨rfl, rfl⟩, by rw [List.length_nil, nxt_zero hf]; exact h, rfl⟩
  | s :: r, m, a, f, T, d, hf, h => by
    obtain ⟨b, T', b1, b2, b3, b4, b5, rfl⟩ := h
    obtain ⟨T1, d1, T2, q1, q2, rfl⟩ := lk_app r m _ _ _ _ (nxt_in _ _) b5
    rw [nxt_nxt] at q2
    exact ⟨b.2.1 ++ T1, d1, T2, ⟨b, T1, b1, b2, b3, b4, q1, rfl⟩, by rw [List.length_append]; exact q2, by rw [List.append_assoc]⟩
theorem lk_len : ∀ (l : List Bs) (a : Bs) (f : Int) (T : List Ev) (d : Bs), Lk a f l T d → l.length ≤ T.length ∧ T.length ≤ 256 * l.length
  | [], a, f, T, d, h => by obtain ⟨rfl, rfl⟩ := h; exact ⟨Nat.le_refl _, Nat.zero_le _⟩
  | s :: r, a, f, T, d, h => by
    obtain ⟨b, T', b1, b2, b3, b4, b5, rfl⟩ := h
    have h1 := lk_len r _ _ _ _ b5
    have h2 := BatP.isB_iff.1 b4
    rw [List.length_append, List.length_cons]
    omega
theorem lk_one {a : Bs} {f : Int} {s : Bs} {T : List Ev} {d : Bs} (h : Lk a f [s] T d) : ∃ b : BatP.Ba, BatP.getB s = ((b, s.length), 0) ∧ b.2.2 = a ∧ b.1 = f ∧ d = DigP.of s ∧ T = b.2.1 := by
  obtain ⟨b, T', b1, b2, b3, b4, ⟨rfl, rfl⟩, rfl⟩ := h
  exact ⟨b, b1, b2, b3, rfl, List.append_nil _⟩
theorem lk_last {a : Bs} {f : Int} {l : List Bs} {s : Bs} {T : List Ev} {d : Bs} (hf : 0 ≤ f ∧ f < 18446744073709551616) (h : Lk a f (l ++ [s]) T d) : d = DigP.of s := by
  obtain ⟨T1, d1, T2, q1, q2, q3⟩ := lk_app _ _ _ _ _ _ hf h
  obtain ⟨b, b1, b2, b3, b4, b5⟩ := lk_one q2
  exact b4
theorem clash_cons (x y : Bs) (A B : List Bs) : clash (x :: A) (y :: B) = if x = y then clash A B else ((x, y), decide (DigP.of x = DigP.of y)) := rfl
/-- Two rows that are checked and have one sum: one row, or two texts of one sum are told. -/
theorem tells {a : Bs} {f : Int} (hf : 0 ≤ f ∧ f < 18446744073709551616) : ∀ (A B : List Bs) (T1 T2 : List Ev) (d : Bs), Lk a f A.reverse T1 d → Lk a f B.reverse T2 d → (T1.length = T2.length ∨ (A ≠ [] ∧ B ≠ [])) → f + T1.length < 18446744073709551616 → f + T2.length < 18446744073709551616 →
    (A = B ∧ clash A B = (([], []), false)) ∨ (A ≠ B ∧ ∃ x y, clash A B = ((x, y), true) ∧ x ≠ y ∧ DigP.of x = DigP.of y)
  | [], [], T1, T2, d, h1, h2, hl, n1, n2 => Or.inl ⟨rfl, rfl⟩
  | [], y :: B, T1, T2, d, h1, h2, hl, n1, n2 => by
    exfalso
    have q1 := lk_len _ _ _ _ _ h1
    have q2 := lk_len _ _ _ _ _ h2
    rw [List.length_reverse] at q1 q2
    rw [List.length_nil] at q1
    rw [List.length_cons] at q2
    rcases hl with hl | hl
    · omega
    · exact hl.1 rfl
  | x :: A, [], T1, T2, d, h1, h2, hl, n1, n2 => by
    exfalso
    have q1 := lk_len _ _ _ _ _ h1
    have q2 := lk_len _ _ _ _ _ h2
    rw [List.length_reverse] at q1 q2
    rw [List.length_nil] at q2
    rw [List.length_cons] at q1
    rcases hl with hl | hl
    · omega
    · exact hl.2 rfl
  | x :: A, y :: B, T1, T2, d, h1, h2, hl, n1, n2 => by
    rw [List.reverse_cons] at h1 h2
    obtain ⟨T11, d1, T12, p1, p2, rfl⟩ := lk_app _ _ _ _ _ _ hf h1
    obtain ⟨T21, d2, T22, q1, q2, rfl⟩ := lk_app _ _ _ _ _ _ hf h2
    obtain ⟨b, b1, b2, b3, b4, b5⟩ := lk_one p2
    obtain ⟨c, c1, c2, c3, c4, c5⟩ := lk_one q2
    rw [List.length_append] at n1 n2
    by_cases hxy : x = y
    · subst hxy
      rw [b1] at c1
      have hbc : b = c := congrArg (·.1.1) c1
      subst hbc
      rw [b2] at c2
      subst c2
      rw [b3] at c3
      have hlen : T11.length = T21.length := by
        unfold nxt at c3
        omega
      have ih := tells hf A B T11 T21 d1 p1 q1 (Or.inl hlen) (by omega) (by omega)
      rw [clash_cons, if_pos rfl]
      rcases ih with ⟨rfl, ih⟩ | ⟨hne, ih⟩
      · exact Or.inl ⟨rfl, ih⟩
      · exact Or.inr ⟨fun hh => hne (List.cons.inj hh).2, ih⟩
    · refine Or.inr ⟨fun hh => hxy (List.cons.inj hh).1, x, y, ?_, hxy, by rw [← b4, ← c4]⟩
      rw [clash_cons, if_neg hxy, ← b4, ← c4]
      simp
theorem tells' {a : Bs} {f : Int} (hf : 0 ≤ f ∧ f < 18446744073709551616) {A B : List Bs} {T1 T2 : List Ev} {d : Bs} (h1 : Lk a f A T1 d) (h2 : Lk a f B T2 d) (hA : A ≠ []) (hB : B ≠ []) (n1 : f + 256 * A.length < 18446744073709551616) (n2 : f + 256 * B.length < 18446744073709551616) :
    (A = B ∧ clash A.reverse B.reverse = (([], []), false)) ∨ (A ≠ B ∧ ∃ x y, clash A.reverse B.reverse = ((x, y), true) ∧ x ≠ y ∧ DigP.of x = DigP.of y) := by
  have q1 := lk_len _ _ _ _ _ h1
  have q2 := lk_len _ _ _ _ _ h2
  have h := tells hf A.reverse B.reverse T1 T2 d (by rw [List.reverse_reverse]; exact h1) (by rw [List.reverse_reverse]; exact h2) (Or.inr ⟨by simpa using hA, by simpa using hB⟩) (by omega) (by omega)
  rcases h with ⟨h, h'⟩ | ⟨h, h'⟩
  · exact Or.inl ⟨List.reverse_inj.1 h, h'⟩
  · exact Or.inr ⟨fun hh => h (by rw [hh]), h'⟩
/-! ### Rows that are linked -/
theorem cut_in {n : Int} {l : List Ev} (h : l ≠ []) : 1 ≤ cut n l ∧ cut n l ≤ l.length := by
  have : l.length ≠ 0 := fun h0 => h (List.length_eq_zero_iff.1 h0)
  unfold cut
  omega
theorem run_seq {l : List Ev} (h : EvP.runB l = true) : ∀ {i : Nat}, i < l.length → (l.getD i EvP.zero).1 = firstOf l + i := by
  intro i
  induction i with
  | zero => intro _; unfold firstOf; simp
  | succ i ih =>
    intro hi
    have h1 := (EvP.okAt_iff.1 (EvP.runB_iff.1 h (i + 1) hi)).2
    have h2 := ih (by omega)
    rcases h1 with h1 | h1
    · omega
    · have h3 := h1.2
      rw [Nat.add_sub_cancel] at h3
      omega
theorem firstOf_drop (l : List Ev) (m : Nat) : firstOf (l.drop m) = (l.getD m EvP.zero).1 := by
  unfold firstOf
  rw [List.getD_eq_getElem?_getD, List.getElem?_drop, Nat.add_zero, ← List.getD_eq_getElem?_getD]
theorem firstOf_take (l : List Ev) (m : Nat) (hm : 1 ≤ m) : firstOf (l.take m) = firstOf l := by
  unfold firstOf
  rw [List.getD_eq_getElem?_getD, List.getElem?_take, if_pos (by omega), ← List.getD_eq_getElem?_getD]
theorem firstOf_in {l : List Ev} (hE : ∀ x ∈ l, 0 ≤ x.1 ∧ x.1 ≤ 18446744073709551615) : 0 ≤ firstOf l ∧ firstOf l ≤ 18446744073709551615 := by
  cases l with
  | nil => unfold firstOf; decide
  | cons x r => exact hE x (List.mem_cons_self ..)
theorem rows_lk : ∀ (sz : List Int) (a : Bs) (f : Int) (l : List Ev), a.length = 32 → EvP.runB l = true → (∀ x ∈ l, 0 ≤ x.1 ∧ x.1 ≤ 18446744073709551615) → l.length ≤ 256 → (l ≠ [] → f = firstOf l) → ∃ k d, k ≤ l.length ∧ Lk a f (rowsL a l sz) (l.take k) d ∧ (rowsL a l sz).length ≤ sz.length ∧ ∀ s ∈ rowsL a l sz, s.length ≤ 8009
  | [], a, f, l, ha, hr, hE, hl, hf => ⟨0, a, Nat.zero_le _, ⟨rfl, rfl⟩, Nat.le_refl _, fun s h => by cases h⟩
  | n :: r, a, f, l, ha, hr, hE, hl, hf => by
    by_cases h0 : l = []
    · refine ⟨0, a, Nat.zero_le _, ?_, ?_, ?_⟩
      · rw [rowsL, if_pos h0]; exact ⟨rfl, rfl⟩
      · rw [rowsL, if_pos h0]; exact Nat.zero_le _
      · rw [rowsL, if_pos h0]; intro s h; cases h
    · obtain ⟨c1, c2⟩ := cut_in (n := n) h0
      have hsp : l.take (cut n l) ++ l.drop (cut n l) = l := List.take_append_drop _ _
      have hru := hr
      rw [← hsp, EvP.run_append, Bool.and_eq_true, Bool.and_eq_true] at hru
      obtain ⟨⟨r1, r2⟩, -⟩ := hru
      have hlen : (l.take (cut n l)).length = cut n l := by rw [List.length_take]; omega
      have hf1 := firstOf_take l (cut n l) c1
      have hfi := firstOf_in hE
      have hb : BatP.isB (firstOf (l.take (cut n l)), l.take (cut n l), a) = true := by
        refine BatP.isB_iff.2 ⟨?_, ?_, r1, rfl⟩
        · show 1 ≤ (l.take (cut n l)).length; omega
        · show (l.take (cut n l)).length ≤ 256; omega
      have hok : BatP.Ok (firstOf (l.take (cut n l)), l.take (cut n l), a) := ⟨by rw [hf1]; exact hfi, ha, fun x hx => hE x (List.mem_of_mem_take hx)⟩
      have hlk : link a (l.take (cut n l)) = (((firstOf (l.take (cut n l)), l.take (cut n l), a), BatP.outL (firstOf (l.take (cut n l)), l.take (cut n l), a)), 0) := by unfold link; rw [if_pos hb]
      have hbl := BatP.body_len hok hb
      have hol := BatP.out_len (b := (firstOf (l.take (cut n l)), l.take (cut n l), a))
      have hg := BatP.get_put hok hb []
      rw [List.append_nil] at hg
      have hnx : l.drop (cut n l) ≠ [] → nxt f (cut n l) = firstOf (l.drop (cut n l)) := by
        intro hne
        have hlt : cut n l < l.length := by
          have : (l.drop (cut n l)).length ≠ 0 := fun h9 => hne (List.length_eq_zero_iff.1 h9)
          rw [List.length_drop] at this
          omega
        have hs := run_seq hr hlt
        have hx := hE _ (List.getElem_mem hlt)
        rw [List.getD_eq_getElem?_getD, List.getElem?_eq_getElem hlt, Option.getD_some] at hs
        rw [firstOf_drop, List.getD_eq_getElem?_getD, List.getElem?_eq_getElem hlt, Option.getD_some, hs, hf h0]
        unfold nxt
        omega
      obtain ⟨k, d, i1, i2, i3, i4⟩ := rows_lk r (DigP.of (BatP.outL (firstOf (l.take (cut n l)), l.take (cut n l), a))) (nxt f (cut n l)) (l.drop (cut n l)) (of_len _) r2 (fun x hx => hE x (List.mem_of_mem_drop hx)) (by rw [List.length_drop]; omega) hnx
      have hrow : rowsL a l (n :: r) = BatP.outL (firstOf (l.take (cut n l)), l.take (cut n l), a) :: rowsL (DigP.of (BatP.outL (firstOf (l.take (cut n l)), l.take (cut n l), a))) (l.drop (cut n l)) r := by
        rw [rowsL, if_neg h0, hlk]
        dsimp only
        rw [if_neg (by simp)]
      rw [List.length_drop] at i1
      refine ⟨cut n l + k, d, by omega, ?_, ?_, ?_⟩
      · rw [hrow]
        refine ⟨_, (l.drop (cut n l)).take k, hg, rfl, ?_, hb, ?_, ?_⟩
        · show firstOf (l.take (cut n l)) = f
          rw [hf1, hf h0]
        · show Lk _ (nxt f (l.take (cut n l)).length) _ _ _
          rw [hlen]; exact i2
        · exact List.take_add
      · rw [hrow, List.length_cons, List.length_cons]; omega
      · rw [hrow]
        intro s hs
        rcases List.mem_cons.1 hs with rfl | hs
        · omega
        · exact i4 s hs
/-- A beginning of a row that is checked, and what is behind it. -/
theorem lk_split {a : Bs} {f : Int} (hf : 0 ≤ f ∧ f < 18446744073709551616) {l : List Bs} {E : List Ev} {n : Nat} {d : Bs} (h : Lk a f l (E.take n) d) (k : Nat) : ∃ m mid, Lk a f (l.take k) (E.take m) mid ∧ m ≤ E.length ∧ m ≤ n ∧ Lk mid (nxt f m) (l.drop k) ((E.take n).drop m) d := by
  rw [← List.take_append_drop k l] at h
  obtain ⟨T1, d1, T2, q1, q2, q3⟩ := lk_app _ _ _ _ _ _ hf h
  have hl : T1.length ≤ (E.take n).length := by rw [q3, List.length_append]; omega
  rw [List.length_take] at hl
  have e1 : E.take T1.length = T1 := by
    have : (E.take n).take T1.length = T1 := by rw [q3, List.take_left]
    rw [← this, List.take_take, Nat.min_eq_left (by omega)]
    rw [List.length_take, Nat.min_eq_left (by omega)]
  have e2 : (E.take n).drop T1.length = T2 := by rw [q3, List.drop_left]
  refine ⟨T1.length, d1, by rw [e1]; exact q1, by omega, by omega, by rw [e2]; exact q2⟩
/-! ### The example -/
def e7 : Ev := (7, 0, 0, 1, 0, 0)
end ChnP
end Go.Proofs.YtfcffglgkblidaaDoor

/-
  Layer 9, plain: how long a row that is checked may be.
-/
namespace Go.Proofs.YtfcffglgkblidaaDoor
namespace ChnP
theorem chk_len : ∀ (L : List Bs) (a : Bs) (f : Int) (t : List Ev), a.length = 32 → (chk a f L t).1.2.length = 32
  | [], a, f, t, h => h
  | s :: r, a, f, t, h => by
    rw [chk]
    by_cases h0 : (one a f s).2 ≠ 0
    · rw [if_pos h0]; rfl
    · rw [if_neg h0]
      obtain ⟨b, -, -, -, -, b5⟩ := one_yes (Decidable.not_not.1 h0)
      rw [b5]
      exact chk_len r _ _ _ (of_len _)
theorem chk_top : ∀ (L : List Bs) (a : Bs) (f : Int) (t : List Ev), (chk a f L t).1.1.length ≤ t.length + 256 * L.length
  | [], a, f, t => by rw [chk]; exact Nat.le_add_right _ _
  | s :: r, a, f, t => by
    rw [chk]
    by_cases h0 : (one a f s).2 ≠ 0
    · rw [if_pos h0]; exact Nat.zero_le _
    · rw [if_neg h0]
      obtain ⟨b, -, -, -, b4, b5⟩ := one_yes (Decidable.not_not.1 h0)
      rw [b5]
      have h1 := chk_top r (DigP.of s) (nxt f b.2.1.length) (t ++ b.2.1)
      have h2 := (BatP.isB_iff.1 b4).2.1
      rw [List.length_append] at h1
      rw [List.length_cons]
      dsimp only at h1 ⊢
      omega
end ChnP
end Go.Proofs.YtfcffglgkblidaaDoor
