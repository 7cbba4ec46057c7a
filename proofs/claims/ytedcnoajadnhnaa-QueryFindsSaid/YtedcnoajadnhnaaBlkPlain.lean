
/-
  Layer 14, plain: the blocks of a row, each told by its events.
-/
import Derived.Test.YtedcnoajadnhnaaQryPlain3
import Derived.Test.YtedcnoajadnhnaaQry11
namespace Go.Proofs.Ytedcnoajadnhnaa
open Go.RowKit
namespace QryP
theorem less_assoc (x y z : Int) : lessI (lessI x y) z = lessI x (lessI y z) := by unfold lessI; repeat' split
                                                                                   all_goals omega
theorem more_assoc (x y z : Int) : moreI (moreI x y) z = moreI x (moreI y z) := by unfold moreI; repeat' split
                                                                                   all_goals omega
theorem bor64 (x y : Int) : bits .or .u64 x y = ((BitVec.ofInt 64 x ||| BitVec.ofInt 64 y).toNat : Int) := by
  show IntKind.u64.wrap ((BitVec.ofInt 64 x ||| BitVec.ofInt 64 y).toNat : Int) = _
  have := (BitVec.ofInt 64 x ||| BitVec.ofInt 64 y).isLt
  exact wrap_u (by omega) (by omega)
theorem ofI (v : BitVec 64) : BitVec.ofInt 64 (v.toNat : Int) = v := by rw [BitVec.ofInt_natCast, BitVec.ofNat_toNat, BitVec.setWidth_eq]
theorem or_assoc64 (x y z : Int) : bits .or .u64 (bits .or .u64 x y) z = bits .or .u64 x (bits .or .u64 y z) := by
  rw [bor64 x y, bor64 y z, bor64, bor64, ofI, ofI, BitVec.or_assoc]
theorem or_range (x y : Int) : 0 ≤ bits .or .u64 x y ∧ bits .or .u64 x y ≤ 18446744073709551615 := by
  rw [bor64]
  have := (BitVec.ofInt 64 x ||| BitVec.ofInt 64 y).isLt
  omega
theorem or_z {x : Int} (h : 0 ≤ x ∧ x ≤ 18446744073709551615) : bits .or .u64 x 0 = x := by
  rw [bor64]
  obtain ⟨n, rfl⟩ : ∃ n : Nat, x = n := ⟨x.toNat, by omega⟩
  rw [show BitVec.ofInt 64 0 = 0#64 from rfl, BitVec.or_zero, BitVec.ofInt_natCast, BitVec.toNat_ofNat, Nat.mod_eq_of_lt (by omega)]
theorem z_or {x : Int} (h : 0 ≤ x ∧ x ≤ 18446744073709551615) : bits .or .u64 0 x = x := by
  rw [bor64]
  obtain ⟨n, rfl⟩ : ∃ n : Nat, x = n := ⟨x.toNat, by omega⟩
  rw [show BitVec.ofInt 64 0 = 0#64 from rfl, BitVec.zero_or, BitVec.ofInt_natCast, BitVec.toNat_ofNat, Nat.mod_eq_of_lt (by omega)]
theorem or_comm64 (x y : Int) : bits .or .u64 x y = bits .or .u64 y x := by rw [bor64, bor64, BitVec.or_comm]
theorem hit_or {p x : Int} (y : Int) (h : hit p x = true) : hit p (bits .or .u64 x y) = true := by
  unfold hit at h ⊢
  rw [band64] at h
  rw [bor64, band64, ofI]
  rw [bne_iff_ne] at h ⊢
  intro e
  apply h
  have e2 : BitVec.ofInt 64 p &&& (BitVec.ofInt 64 x ||| BitVec.ofInt 64 y) = 0#64 := by
    apply BitVec.eq_of_toNat_eq
    exact_mod_cast e
  have e3 : BitVec.ofInt 64 p &&& BitVec.ofInt 64 x = (BitVec.ofInt 64 p &&& (BitVec.ofInt 64 x ||| BitVec.ofInt 64 y)) &&& BitVec.ofInt 64 x := by
    generalize BitVec.ofInt 64 p = P
    generalize BitVec.ofInt 64 x = X
    generalize BitVec.ofInt 64 y = Y
    ext i hi
    simp only [BitVec.getElem_and, BitVec.getElem_or]
    cases P[i] <;> cases X[i] <;> cases Y[i] <;> rfl
  rw [e3, e2]
  simp
theorem hit_or2 {p y : Int} (x : Int) (h : hit p y = true) : hit p (bits .or .u64 x y) = true := by rw [or_comm64]; exact hit_or x h

def lowT : List Ev → Int
  | [] => 0
  | [x] => x.2.1
  | x :: y :: r => lessI x.2.1 (lowT (y :: r))
def highT : List Ev → Int
  | [] => 0
  | [x] => x.2.1
  | x :: y :: r => moreI x.2.1 (highT (y :: r))
def orP : List Ev → Int
  | [] => 0
  | x :: r => bits .or .u64 (partS x.2.2.1) (orP r)
def orK : List Ev → Int
  | [] => 0
  | x :: r => bits .or .u64 (kindS x.2.2.2.1) (orK r)
def firstS (s : List Ev) : Int := (s.getD 0 EvP.zero).1
def blkOf (a : Int) (s : List Ev) : Bk := (a, (s.length : Int), firstS s, lowT s, highT s, orP s, orK s)

theorem orP_range : ∀ s : List Ev, 0 ≤ orP s ∧ orP s ≤ 18446744073709551615
  | [] => by simp [orP]
  | x :: r => or_range _ _
theorem orK_range : ∀ s : List Ev, 0 ≤ orK s ∧ orK s ≤ 18446744073709551615
  | [] => by simp [orK]
  | x :: r => or_range _ _
theorem orP_app : ∀ s t : List Ev, orP (s ++ t) = bits .or .u64 (orP s) (orP t)
  | [], t => (z_or (orP_range t)).symm
  | x :: r, t => by
    show bits .or .u64 _ (orP (r ++ t)) = bits .or .u64 (bits .or .u64 _ (orP r)) (orP t)
    rw [orP_app r t, or_assoc64]
theorem orK_app : ∀ s t : List Ev, orK (s ++ t) = bits .or .u64 (orK s) (orK t)
  | [], t => (z_or (orK_range t)).symm
  | x :: r, t => by
    show bits .or .u64 _ (orK (r ++ t)) = bits .or .u64 (bits .or .u64 _ (orK r)) (orK t)
    rw [orK_app r t, or_assoc64]
theorem orP_one (x : Ev) : orP [x] = partS x.2.2.1 := or_z partS_range
theorem orK_one (x : Ev) : orK [x] = kindS x.2.2.2.1 := or_z kindS_range
theorem lowT_app : ∀ {s t : List Ev}, s ≠ [] → t ≠ [] → lowT (s ++ t) = lessI (lowT s) (lowT t)
  | [], _, h, _ => absurd rfl h
  | [x], [], _, h => absurd rfl h
  | [x], y :: r, _, _ => rfl
  | x :: y :: s, t, _, h => by
    show lessI _ (lowT ((y :: s) ++ t)) = lessI (lessI _ (lowT (y :: s))) (lowT t)
    rw [lowT_app (by simp) h, less_assoc]
theorem highT_app : ∀ {s t : List Ev}, s ≠ [] → t ≠ [] → highT (s ++ t) = moreI (highT s) (highT t)
  | [], _, h, _ => absurd rfl h
  | [x], [], _, h => absurd rfl h
  | [x], y :: r, _, _ => rfl
  | x :: y :: s, t, _, h => by
    show moreI _ (highT ((y :: s) ++ t)) = moreI (moreI _ (highT (y :: s))) (highT t)
    rw [highT_app (by simp) h, more_assoc]
theorem lowT_le : ∀ {s : List Ev} {x : Ev}, x ∈ s → lowT s ≤ x.2.1
  | [], _, h => by cases h
  | [y], x, h => by
    rw [List.mem_singleton.1 h]
    exact Int.le_refl _
  | y :: z :: r, x, h => by
    show lessI y.2.1 (lowT (z :: r)) ≤ _
    rcases List.mem_cons.1 h with rfl | h
    · unfold lessI; split <;> omega
    · have := lowT_le h
      unfold lessI; split <;> omega
theorem highT_ge : ∀ {s : List Ev} {x : Ev}, x ∈ s → x.2.1 ≤ highT s
  | [], _, h => by cases h
  | [y], x, h => by
    rw [List.mem_singleton.1 h]
    exact Int.le_refl _
  | y :: z :: r, x, h => by
    show _ ≤ moreI y.2.1 (highT (z :: r))
    rcases List.mem_cons.1 h with rfl | h
    · unfold moreI; split <;> omega
    · have := highT_ge h
      unfold moreI; split <;> omega
theorem lowT_mem : ∀ {s : List Ev}, s ≠ [] → ∃ x ∈ s, x.2.1 = lowT s
  | [], h => absurd rfl h
  | [y], _ => ⟨y, by simp, rfl⟩
  | y :: z :: r, _ => by
    obtain ⟨x, hx, he⟩ := lowT_mem (s := z :: r) (by simp)
    show ∃ x ∈ _, _ = lessI y.2.1 (lowT (z :: r))
    unfold lessI
    split
    · exact ⟨x, List.mem_cons_of_mem _ hx, he⟩
    · exact ⟨y, List.mem_cons_self, rfl⟩
theorem highT_mem : ∀ {s : List Ev}, s ≠ [] → ∃ x ∈ s, x.2.1 = highT s
  | [], h => absurd rfl h
  | [y], _ => ⟨y, by simp, rfl⟩
  | y :: z :: r, _ => by
    obtain ⟨x, hx, he⟩ := highT_mem (s := z :: r) (by simp)
    show ∃ x ∈ _, _ = moreI y.2.1 (highT (z :: r))
    unfold moreI
    split
    · exact ⟨x, List.mem_cons_of_mem _ hx, he⟩
    · exact ⟨y, List.mem_cons_self, rfl⟩
theorem hit_orP {p : Int} : ∀ {s : List Ev} {x : Ev}, x ∈ s → hit p (partS x.2.2.1) = true → hit p (orP s) = true
  | [], _, h, _ => by cases h
  | y :: r, x, h, k => by
    rcases List.mem_cons.1 h with rfl | h
    · exact hit_or _ k
    · exact hit_or2 _ (hit_orP h k)
theorem hit_orK {p : Int} : ∀ {s : List Ev} {x : Ev}, x ∈ s → hit p (kindS x.2.2.2.1) = true → hit p (orK s) = true
  | [], _, h, _ => by cases h
  | y :: r, x, h, k => by
    rcases List.mem_cons.1 h with rfl | h
    · exact hit_or _ k
    · exact hit_or2 _ (hit_orK h k)
theorem firstS_app {s : List Ev} (t : List Ev) (h : s ≠ []) : firstS (s ++ t) = firstS s := by
  cases s with
  | nil => exact absurd rfl h
  | cons x r => rfl
theorem blk_one (a : Int) (x : Ev) : blkOf a [x] = ofE a x := by
  unfold blkOf ofE
  rw [orP_one, orK_one]
  rfl
theorem cnt_blk {a : Int} {s : List Ev} (h : s.length ≤ 1073741824) : cntb (blkOf a s) = true := by
  unfold cntb
  rw [Bool.and_eq_true, decide_eq_true_eq, decide_eq_true_eq]
  show (0 : Int) ≤ (s.length : Int) ∧ (s.length : Int) ≤ 1073741824
  omega
theorem blk_join {a c : Int} {s t : List Ev} (hs : s ≠ []) (ht : t ≠ []) (h : s.length + t.length ≤ 1073741824) : join (blkOf a s) (blkOf c t) = blkOf a (s ++ t) := by
  have h1 := List.length_pos_iff.2 hs
  have h2 := List.length_pos_iff.2 ht
  unfold join
  rw [if_pos (by rw [cnt_blk (by omega), cnt_blk (by omega)]; rfl), if_neg (by simp only [blkOf]; omega), if_neg (by simp only [blkOf]; omega)]
  simp only [blkOf]
  rw [lowT_app hs ht, highT_app hs ht, orP_app, orK_app, firstS_app t hs, List.length_append, Int.natCast_add]
theorem join_zero {c : Int} {t : List Ev} (h : t.length ≤ 1073741824) : join zeroB (blkOf c t) = blkOf c t := by
  unfold join
  rw [if_pos (by rw [cnt_blk h]; rfl)]
  rfl
/-- Event by event: a block of s, and one event more. -/
theorem join_next {a : Int} {s : List Ev} (k : Int) (x : Ev) (hs : s ≠ []) (h : s.length ≤ 1000000) : join (blkOf a s) (ofE k x) = blkOf a (s ++ [x]) := by
  rw [← blk_one]
  exact blk_join hs (by simp) (by simp; omega)

/-- The i-th piece of a row's first k events. -/
def piece (l : List Ev) (step i k : Nat) : List Ev := (l.drop (i * step)).take (min step (k - i * step))
theorem piece_len {l : List Ev} {step i k : Nat} (h : i * step < k) (hk : k ≤ l.length) : (piece l step i k).length = min step (k - i * step) := by
  unfold piece
  rw [List.length_take, List.length_drop]
  omega
theorem piece_next {l : List Ev} {step i k : Nat} (h1 : i * step ≤ k) (h2 : k < i * step + step) (hk : k < l.length) : piece l step i (k + 1) = piece l step i k ++ [l[k]] := by
  unfold piece
  rw [show min step (k + 1 - i * step) = (k - i * step) + 1 by omega, show min step (k - i * step) = k - i * step by omega, List.take_add_one, List.getElem?_drop, show i * step + (k - i * step) = k by omega, List.getElem?_eq_getElem hk]
  rfl
theorem piece_full {l : List Ev} {step i k : Nat} (h : i * step + step ≤ k) : piece l step i k = piece l step i (k + 1) := by
  unfold piece
  rw [show min step (k - i * step) = step by omega, show min step (k + 1 - i * step) = step by omega]
theorem piece_zero {l : List Ev} {step i : Nat} : piece l step i (i * step) = [] := by
  unfold piece
  simp
/-- What Build has behind k events. -/
structure Bl (l : List Ev) (step k : Nat) (bs : List Bk) : Prop where
  lo : (bs.length : Int) * step < k + step
  hi : (k : Int) ≤ bs.length * step
  at_ : ∀ i, i < bs.length → bs[i]? = some (blkOf ((i * step : Nat) : Int) (piece l step i k))
theorem bl_step {l : List Ev} {step k : Nat} (hs : 1 ≤ step) (hl : l.length ≤ 1000000) (hk : k < l.length) {bs : List Bk} (h : Bl l step k bs) :
    Bl l step (k + 1) (if k % step = 0 then bs ++ [ofE k l[k]] else bs.take (bs.length - 1) ++ [join (bs.getD (bs.length - 1) zeroB) (ofE k l[k])]) := by
  obtain ⟨lo, hi, ha⟩ := h
  by_cases c : k % step = 0
  · rw [if_pos c]
    obtain ⟨m, em⟩ : ∃ m, k = m * step := ⟨k / step, by have := Nat.div_add_mod k step; rw [Nat.mul_comm]; omega⟩
    have e : bs.length = m := by
      have l1 : bs.length * step < k + step := by exact_mod_cast lo
      have l2 : k ≤ bs.length * step := by exact_mod_cast hi
      have a1 : bs.length < m + 1 := Nat.lt_of_mul_lt_mul_right (a := step) (by rw [Nat.add_mul]; omega)
      have a2 : m ≤ bs.length := Nat.le_of_mul_le_mul_right (by rw [← em]; exact l2) (by omega : 0 < step)
      omega
    have e7 : (m + (0 + 1)) * step = k + step := by rw [Nat.zero_add, Nat.add_mul, Nat.one_mul, ← em]
    have e8 : ((m + (0 + 1) : Nat) : Int) * step = ((k + step : Nat) : Int) := by rw [← e7]; exact (Int.natCast_mul _ _).symm
    refine ⟨?_, ?_, fun i hi' => ?_⟩
    · rw [List.length_append, e]
      simp only [List.length_cons, List.length_nil]
      rw [e8]; omega
    · rw [List.length_append, e]
      simp only [List.length_cons, List.length_nil]
      rw [e8]; omega
    · rw [List.length_append, e] at hi'
      simp only [List.length_cons, List.length_nil] at hi'
      by_cases ci : i < bs.length
      · rw [List.getElem?_append_left ci, ha i ci, piece_full]
        have : (i + 1) * step ≤ m * step := Nat.mul_le_mul_right _ (by omega)
        rw [Nat.add_mul, Nat.one_mul] at this
        omega
      · obtain rfl : i = bs.length := by omega
        rw [List.getElem?_append_right (Nat.le_refl _), Nat.sub_self, e]
        have p := piece_next (l := l) (step := step) (i := m) (k := k) (by omega) (by omega) hk
        have pz : piece l step m k = [] := by rw [em]; exact piece_zero
        rw [p, pz, List.nil_append, blk_one, ← em]
        rfl
  · rw [if_neg c]
    have hlen : ∃ m, bs.length = m + 1 ∧ m * step < k ∧ k < m * step + step := by
      have l1 : bs.length * step < k + step := by exact_mod_cast lo
      have l2 : k ≤ bs.length * step := by exact_mod_cast hi
      have l3 : k ≠ bs.length * step := fun e => c (by rw [e]; exact Nat.mul_mod_left _ _)
      cases hb : bs.length with
      | zero => rw [hb] at l2; simp at l2; subst l2; simp at c
      | succ m =>
        rw [hb, Nat.add_mul, Nat.one_mul] at l1 l2 l3
        exact ⟨m, rfl, by omega, by omega⟩
    obtain ⟨m, e, m1, m2⟩ := hlen
    have hg : bs.getD (bs.length - 1) zeroB = blkOf ((m * step : Nat) : Int) (piece l step m k) := by
      rw [List.getD_eq_getElem?_getD, e, Nat.add_sub_cancel, ha m (by omega)]
      rfl
    have hp := piece_len m1 (Nat.le_of_lt hk)
    rw [hg, join_next _ _ (by intro e0; rw [e0] at hp; simp at hp; omega) (by omega), ← piece_next (Nat.le_of_lt m1) m2 hk]
    have hl2 : (bs.take (bs.length - 1) ++ [blkOf ((m * step : Nat) : Int) (piece l step m (k + 1))]).length = m + 1 := by
      rw [List.length_append, List.length_take]; simp only [List.length_cons, List.length_nil]; omega
    have this : ((m + 1 : Nat) : Int) * step = ((m * step + step : Nat) : Int) := by rw [← Int.natCast_mul]; congr 1; rw [Nat.add_mul, Nat.one_mul]
    refine ⟨by rw [hl2, this]; omega, by rw [hl2, this]; omega, fun i hi' => ?_⟩
    rw [hl2] at hi'
    by_cases ci : i < m
    · rw [List.getElem?_append_left (by rw [List.length_take]; omega), List.getElem?_take, if_pos (by omega), ha i (by omega), piece_full]
      have : (i + 1) * step ≤ m * step := Nat.mul_le_mul_right _ (by omega)
      rw [Nat.add_mul, Nat.one_mul] at this
      omega
    · obtain rfl : i = m := by omega
      rw [List.getElem?_append_right (by rw [List.length_take]; omega), List.length_take, show i - min (bs.length - 1) bs.length = 0 by omega]
      rfl
theorem bl_all {l : List Ev} {step : Nat} (hs : 1 ≤ step) (hl : l.length ≤ 1000000) : ∀ (r : List Ev) (k : Nat) (bs : List Bk), l.drop k = r → k ≤ l.length → Bl l step k bs → Bl l step l.length (bldN step r k bs)
  | [], k, bs, hr, hk, h => by
    have : l.length ≤ k := List.drop_eq_nil_iff.1 hr
    obtain rfl : k = l.length := by omega
    exact h
  | x :: r, k, bs, hr, hk, h => by
    have hk' : k < l.length := by
      rcases Nat.lt_or_ge k l.length with h | h
      · exact h
      · rw [List.drop_eq_nil_of_le h] at hr; cases hr
    have e := List.drop_eq_getElem_cons hk'
    rw [hr] at e
    injection e with e1 e2
    have h2 := bl_step hs hl hk' h
    rw [← e1] at h2
    exact bl_all hs hl r (k + 1) _ e2.symm hk' h2
theorem bl_start (l : List Ev) {step : Nat} (hs : 1 ≤ step) : Bl l step 0 [] := ⟨by simp; omega, by simp, fun i hi => by cases hi⟩
/-- Build's blocks: how many, and each by its events. -/
theorem build_bl {step : Int} {l : List Ev} {bs : List Bk} (hl : l.length ≤ 1000000) (h : build step l = (bs, 0)) : ∃ m : Nat, step = m ∧ 1 ≤ m ∧ m ≤ 256 ∧ EvP.runB l = true ∧ Bl l m l.length bs := by
  unfold build at h
  split at h
  · cases h
  · rename_i c
    simp only [Bool.or_eq_true, decide_eq_true_eq, Bool.not_eq_true', not_or, Bool.not_eq_false] at c
    injection h with h _
    refine ⟨step.toNat, by omega, by omega, by omega, c.2.2, ?_⟩
    rw [← h]
    exact bl_all (by omega) hl l 0 [] (by simp) (by omega) (bl_start l (by omega))
/-- A row that runs: the numbers go up by one. -/
theorem run_seq {l : List Ev} (h : EvP.runB l = true) : ∀ {i : Nat}, i < l.length → (l.getD i EvP.zero).1 = (l.getD 0 EvP.zero).1 + i
  | 0, _ => by simp
  | i + 1, hi => by
    have h1 := EvP.okAt_iff.1 (EvP.runB_iff.1 h (i + 1) hi)
    have h2 := run_seq h (i := i) (by omega)
    rcases h1.2 with h3 | h3
    · omega
    · have := h3.2
      rw [Nat.add_sub_cancel] at this
      omega
end QryP
end Go.Proofs.Ytedcnoajadnhnaa
