
/-
  Four bytes of a batch turned: it tells that its sum is wrong. A row that '[]byte(s)' made, as a block told by its list.
-/
import Derived.Test.YtkjmhnbijbpmkaaBatAr
import Derived.Test.YtkjmhnbijbpmkaaWireTexts
namespace Go.Proofs.Ytkjmhnbijbpmkaa
open Go.RowKit
set_option linter.unusedVariables false
set_option linter.unusedSimpArgs false
namespace BatP
/-- The first j of four bytes from a on, turned by y's. -/
def turnN (O : List UInt8) (a y : Nat) : Nat → List UInt8
  | 0 => O
  | j + 1 => (turnN O a y j).set (a + j) ((turnN O a y j).getD (a + j) 0 ^^^ WireP.byteAt y j)
theorem turn_len (O : List UInt8) (a y : Nat) : ∀ j, (turnN O a y j).length = O.length
  | 0 => rfl
  | j + 1 => by rw [turnN, List.length_set, turn_len O a y j]
theorem set_mid (A P R : List UInt8) (c x : UInt8) : (A ++ (P ++ c :: R)).set (A.length + P.length) x = A ++ (P ++ x :: R) := by
  rw [List.set_append_right _ _ (by omega), Nat.add_sub_cancel_left, List.set_append_right _ _ (by omega), Nat.sub_self, List.set_cons_zero]
theorem getD_mid (A P R : List UInt8) (c : UInt8) : (A ++ (P ++ c :: R)).getD (A.length + P.length) 0 = c := by
  rw [List.getD_eq_getElem?_getD, List.getElem?_append_right (by omega), Nat.add_sub_cancel_left, List.getElem?_append_right (by omega), Nat.sub_self]
  rfl
theorem turn4 (A B : List UInt8) (b0 b1 b2 b3 : UInt8) (y : Nat) : turnN (A ++ b0 :: b1 :: b2 :: b3 :: B) A.length y 4 = A ++ ((b0 ^^^ WireP.byteAt y 0) :: (b1 ^^^ WireP.byteAt y 1) :: (b2 ^^^ WireP.byteAt y 2) :: (b3 ^^^ WireP.byteAt y 3) :: B) := by
  have e1 : turnN (A ++ b0 :: b1 :: b2 :: b3 :: B) A.length y 1 = A ++ ([b0 ^^^ WireP.byteAt y 0] ++ b1 :: b2 :: b3 :: B) := by
    have g := getD_mid A [] (b1 :: b2 :: b3 :: B) b0
    have s := set_mid A [] (b1 :: b2 :: b3 :: B) b0 (b0 ^^^ WireP.byteAt y 0)
    show (A ++ ([] ++ b0 :: b1 :: b2 :: b3 :: B)).set (A.length + 0) ((A ++ ([] ++ b0 :: b1 :: b2 :: b3 :: B)).getD (A.length + 0) 0 ^^^ WireP.byteAt y 0) = _
    rw [show (A.length + 0 : Nat) = A.length + ([] : List UInt8).length from rfl, g, s]; rfl
  have e2 : turnN (A ++ b0 :: b1 :: b2 :: b3 :: B) A.length y 2 = A ++ ([b0 ^^^ WireP.byteAt y 0, b1 ^^^ WireP.byteAt y 1] ++ b2 :: b3 :: B) := by
    have g := getD_mid A [b0 ^^^ WireP.byteAt y 0] (b2 :: b3 :: B) b1
    have s := set_mid A [b0 ^^^ WireP.byteAt y 0] (b2 :: b3 :: B) b1 (b1 ^^^ WireP.byteAt y 1)
    rw [turnN, e1, show (A.length + 1 : Nat) = A.length + [b0 ^^^ WireP.byteAt y 0].length from rfl, g, s]; rfl
  have e3 : turnN (A ++ b0 :: b1 :: b2 :: b3 :: B) A.length y 3 = A ++ ([b0 ^^^ WireP.byteAt y 0, b1 ^^^ WireP.byteAt y 1, b2 ^^^ WireP.byteAt y 2] ++ b3 :: B) := by
    have g := getD_mid A [b0 ^^^ WireP.byteAt y 0, b1 ^^^ WireP.byteAt y 1] (b3 :: B) b2
    have s := set_mid A [b0 ^^^ WireP.byteAt y 0, b1 ^^^ WireP.byteAt y 1] (b3 :: B) b2 (b2 ^^^ WireP.byteAt y 2)
    rw [turnN, e2, show (A.length + 2 : Nat) = A.length + [b0 ^^^ WireP.byteAt y 0, b1 ^^^ WireP.byteAt y 1].length from rfl, g, s]; rfl
  have g := getD_mid A [b0 ^^^ WireP.byteAt y 0, b1 ^^^ WireP.byteAt y 1, b2 ^^^ WireP.byteAt y 2] B b3
  have s := set_mid A [b0 ^^^ WireP.byteAt y 0, b1 ^^^ WireP.byteAt y 1, b2 ^^^ WireP.byteAt y 2] B b3 (b3 ^^^ WireP.byteAt y 3)
  rw [turnN, e3, show (A.length + 3 : Nat) = A.length + [b0 ^^^ WireP.byteAt y 0, b1 ^^^ WireP.byteAt y 1, b2 ^^^ WireP.byteAt y 2].length from rfl, g, s]; rfl
theorem xor_self_ne {b d : UInt8} (h : b ^^^ d = b) : d.toNat = 0 := by
  have h1 : b ^^^ (b ^^^ d) = b ^^^ b := by rw [h]
  rw [← UInt8.xor_assoc, UInt8.xor_self, UInt8.zero_xor] at h1
  rw [h1]; rfl
theorem four_ne {b0 b1 b2 b3 : UInt8} {y : Nat} (h0 : y ≠ 0) (h1 : y < 4294967296) : [b0 ^^^ WireP.byteAt y 0, b1 ^^^ WireP.byteAt y 1, b2 ^^^ WireP.byteAt y 2, b3 ^^^ WireP.byteAt y 3] ≠ [b0, b1, b2, b3] := by
  intro h
  simp only [List.cons.injEq, and_true] at h
  obtain ⟨e0, e1, e2, e3⟩ := h
  have f0 := xor_self_ne e0
  have f1 := xor_self_ne e1
  have f2 := xor_self_ne e2
  have f3 := xor_self_ne e3
  unfold WireP.byteAt at f0 f1 f2 f3
  rw [UInt8.toNat_ofNat'] at f0 f1 f2 f3
  simp only [Nat.reducePow] at f0 f1 f2 f3
  omega
theorem tells {t : List UInt8} {a y : Nat} (ht : t.length ≤ 16384) (h5 : 5 ≤ a) (ha : a + 8 ≤ t.length + 9 ∨ a + 4 = t.length + 9) (hy : y ≠ 0) (hy2 : y < 4294967296) : getB (turnN (sumL (frameL t)) a y 4) = noB 10 := by
  have hF := frame_len t
  obtain ⟨F, hFd⟩ : ∃ F, frameL t = F := ⟨_, rfl⟩
  obtain ⟨x4, hx4⟩ : ∃ x, WireP.fixedL (CrcP.ofL F).toNat 4 = x := ⟨_, rfl⟩
  have hxl : x4.length = 4 := by rw [← hx4, WireP.fixedL_length]
  have hxn : WireP.numOf x4 = (CrcP.ofL F).toNat := by
    have := (CrcP.ofL F).isLt
    rw [← hx4, WireP.numOf_fixed, Nat.mod_eq_of_lt (by omega)]
  have hO : sumL (frameL t) = F ++ x4 := by unfold sumL; rw [hFd, hx4]
  rw [hFd] at hF
  rw [hO]
  have key : ∀ (A R : List UInt8), A.length = a → 4 ≤ R.length → ∃ (z yb C : List UInt8), R = yb ++ C ∧ z.length = 4 ∧ yb.length = 4 ∧ z ≠ yb ∧ turnN (A ++ R) a y 4 = A ++ (z ++ C) := by
    intro A R hA hR
    match R, hR with
    | b0 :: b1 :: b2 :: b3 :: B, _ =>
      subst hA
      exact ⟨[b0 ^^^ WireP.byteAt y 0, b1 ^^^ WireP.byteAt y 1, b2 ^^^ WireP.byteAt y 2, b3 ^^^ WireP.byteAt y 3], [b0, b1, b2, b3], B, rfl, rfl, rfl, four_ne hy hy2, turn4 A B b0 b1 b2 b3 y⟩
  rcases ha with ha | ha
  · obtain ⟨z, yb, C, hR, hz, hyb, hne, hT⟩ := key (F.take a) (F.drop a) (by rw [List.length_take]; omega) (by rw [List.length_drop]; omega)
    have hT2 : turnN (F ++ x4) a y 4 = (F.take a ++ (z ++ C)) ++ x4 := by
      obtain ⟨z', yb', C', hR', hz', hyb', hne', hT'⟩ := key (F.take a) (F.drop a ++ x4) (by rw [List.length_take]; omega) (by rw [List.length_append, List.length_drop]; omega)
      rw [← List.append_assoc, List.take_append_drop] at hT'
      rw [List.take_append_drop] at hT
      have hyy : yb' = yb := by
        have e : (yb ++ (C ++ x4)).take 4 = (yb' ++ C').take 4 := by rw [← hR', hR, List.append_assoc]
        rw [List.take_left' hyb, List.take_left' hyb'] at e; exact e.symm
      have hCC : C' = C ++ x4 := by
        have e : (yb ++ (C ++ x4)).drop 4 = (yb' ++ C').drop 4 := by rw [← hR', hR, List.append_assoc]
        rw [List.drop_left' hyb, List.drop_left' hyb'] at e; exact e.symm
      have hzz : z' = z := by
        have l1 : ∀ (k : Nat), turnN (F ++ x4) a y k = turnN F a y k ++ x4 ∨ 4 < k := by
          intro k
          induction k with
          | zero => exact Or.inl rfl
          | succ k ih =>
            rcases Nat.lt_or_ge 3 k with hk | hk
            · exact Or.inr (by omega)
            · rcases ih with ih | ih
              · left
                have hlk := turn_len F a y k
                rw [turnN, ih, turnN, List.set_append_left _ _ (by omega), List.getD_eq_getElem?_getD, List.getElem?_append_left (by omega), ← List.getD_eq_getElem?_getD]
              · omega
        rcases l1 4 with h | h
        · rw [hT', hT, hCC] at h
          have h2 : F.take a ++ (z' ++ (C ++ x4)) = F.take a ++ (z ++ (C ++ x4)) := by simpa [List.append_assoc] using h
          have h3 := List.append_cancel_left h2
          have e := congrArg (List.take 4) h3
          rw [List.take_left' hz', List.take_left' hz] at e; exact e
        · omega
      rw [hT', hzz, hCC]
      simp [List.append_assoc]
    rw [hT2]
    have hFF : F = F.take a ++ (yb ++ C) := by rw [← hR, List.take_append_drop]
    obtain ⟨F', hF'⟩ : ∃ F', F.take a ++ (z ++ C) = F' := ⟨_, rfl⟩
    rw [hF']
    have hCl : C.length + 4 = F.length - a := by
      have := congrArg List.length hR
      rw [List.length_drop, List.length_append, hyb] at this; omega
    have hF'l : F'.length = F.length := by rw [← hF', List.length_append, List.length_append, List.length_take, hz]; omega
    have h5t : F'.take 5 = F.take 5 := by rw [← hF', List.take_append_of_le_length (by rw [List.length_take]; omega), List.take_take, Nat.min_eq_left h5]
    have hF5 : F.take 5 = 66 :: WireP.fixedL t.length 4 := by
      rw [← hFd]; unfold frameL
      rw [List.take_succ_cons, List.take_left' (WireP.fixedL_length _ _)]
    have hfr : frameL (F'.drop 5) = F' := by
      unfold frameL
      rw [List.length_drop, hF'l, hF, Nat.add_sub_cancel]
      rw [← List.cons_append, ← hF5, ← h5t, List.take_append_drop]
    rw [← hfr]
    apply get_sum
    · rw [List.length_drop]; omega
    · exact hxl
    · rw [hxn, hfr]
      intro hc
      have hc2 : CrcP.ofL F = CrcP.ofL F' := BitVec.eq_of_toNat_eq hc
      rw [hFF, ← hF'] at hc2
      exact crc_ne hyb hz (fun h => hne h.symm) hc2
  · obtain ⟨z, yb, C, hR, hz, hyb, hne, hT⟩ := key F x4 (by omega) (by omega)
    have hC : C = [] := by
      have := congrArg List.length hR
      rw [List.length_append] at this
      exact List.eq_nil_of_length_eq_zero (by omega)
    subst hC
    rw [List.append_nil] at hR hT
    rw [hT, ← hFd]
    apply get_sum ht hz
    rw [hFd, ← hxn, hR]
    exact fun h => hne (numOf_inj (by omega) h)
/-- A row that '[]byte(s)' made. -/
def Lo (U : TypeId) (g : Nat) (Y : List UInt8) (W : World) : Prop := W.heap[g]? = some (.cells (bA Y) U (Y.length, Y.length + 1))
theorem Lo.cell {U : TypeId} {g j : Nat} {Y : List UInt8} {W : World} (h : Lo U g Y W) (hj : j < Y.length) : W.cell? ⟨g, j, none⟩ = some (.int .u8 ((Y.getD j 0).toNat : Int)) := Hp.boxH h j (by simp [bA, bcells, List.getD_eq_getElem?_getD, hj])
theorem Lo.free {U : TypeId} {g j : Nat} {Y : List UInt8} {W : World} (h : Lo U g Y W) (hj : j < Y.length) : W.frozen? ⟨g, j, none⟩ = false := by
  unfold Lo at h
  simp [World.frozen?, h]
  omega
theorem Lo.set {U : TypeId} {g j : Nat} {Y : List UInt8} {W : World} (h : Lo U g Y W) (c : UInt8) : Lo U g (Y.set j c) (W.setCell ⟨g, j, none⟩ (.int .u8 (c.toNat : Int))) := by
  have := Hp.setCell_heap W g j (.int .u8 (c.toNat : Int)) _ _ _ h
  unfold Lo
  rw [this, bA_set, List.length_set]
theorem Lo.set' {U : TypeId} {g j : Nat} {Y : List UInt8} {W : World} (h : Lo U g Y W) (c : UInt8) {x : Int} (hx : x = (c.toNat : Int)) : Lo U g (Y.set j c) (W.setCell ⟨g, j, none⟩ (.int .u8 x)) := by subst hx; exact h.set c
theorem bxor8 (a b : UInt8) : bits .xor .u8 (a.toNat : Int) (b.toNat : Int) = ((a ^^^ b).toNat : Int) := by
  show IntKind.u8.wrap ((BitVec.ofInt 8 (a.toNat : Int) ^^^ BitVec.ofInt 8 (b.toNat : Int)).toNat : Int) = _
  have ha := a.toNat_lt
  have hb := b.toNat_lt
  have hc := (a ^^^ b).toNat_lt
  have e : (BitVec.ofInt 8 (a.toNat : Int) ^^^ BitVec.ofInt 8 (b.toNat : Int)).toNat = (a ^^^ b).toNat := by
    simp only [BitVec.ofInt_natCast, BitVec.toNat_xor, BitVec.toNat_ofNat, UInt8.toNat_xor]
    rw [Nat.mod_eq_of_lt ha, Nat.mod_eq_of_lt hb]
  rw [e]
  have hw : ∀ n : Nat, n < 256 → IntKind.u8.wrap (n : Int) = n := by
    intro n hn
    simp [IntKind.wrap, IntKind.bits, IntKind.signed]
    omega
  exact hw _ hc
end BatP
/-- '[]byte(s)'. -/
theorem wpl_bytes_lo {P : Program} {w0 W : World} {H : List Hp.Blk} {D : World → Prop} (sh : Hp.Sh w0 W H D) {ops : Array Oper} {rest : List Oper} {o : Oper} {a : Act} {Q : Exit → Act → World → Prop} (hgd : o.guard = none) (x : Operand) (S T U : TypeId)
    (hop : o.op = Op.convert S T x) (hS : P.underlying S = some .string) (hT : P.underlying T = some (.slice U)) (hU : P.underlying U = some (.int .u8))
    (l : List UInt8) (hx : a.eval x = .string (bstr l))
    (h : ∀ w' g sp cap, w0.heap.size ≤ g → BatP.Lo U g (l ++ sp) w' → Hp.Sh w0 w' H D → l.length ≤ cap → wpList P ops Q rest (a.put o.dst (.slice (some ⟨g, 0, none⟩) l.length cap)) w') :
    wpList P ops Q (o :: rest) a W := by
  refine wpList_plain hgd fun K hK' => ?_
  have hrun := run_bytes_of_string (P := P) W S T U (bstr l) hS hT hU
  unfold Oper.wp
  simp [execOp, hop, hx, hrun, Result.andThen]
  have hsz : (bstr l).size = l.length := bstr_size l
  have hge := grownCap_ge W (bstr l).size 0 U
  have hrow : bytesRow (bstr l) (grownCap W (bstr l).size 0 U) = BatP.bA (l ++ List.replicate (grownCap W (bstr l).size 0 U - l.length) 0) := by
    unfold bytesRow BatP.bA
    apply Array.ext'
    rw [hsz]
    simp [bcells, bstr]
  have hlen : (bytesRow (bstr l) (grownCap W (bstr l).size 0 U)).size = (l ++ List.replicate (grownCap W (bstr l).size 0 U - l.length) (0 : UInt8)).length := by rw [hrow, BatP.bA_size]
  have hk := h (W.drew.alloc (.cells (bytesRow (bstr l) (grownCap W (bstr l).size 0 U)) U ((bytesRow (bstr l) (grownCap W (bstr l).size 0 U)).size, (bytesRow (bstr l) (grownCap W (bstr l).size 0 U)).size + 1))) W.heap.size (List.replicate (grownCap W (bstr l).size 0 U - l.length) 0) (grownCap W (bstr l).size 0 U) sh.below.size ?_ (sh.call ?_) (by rw [← hsz]; exact hge)
  · rw [← hsz] at hk
    exact hK' _ _ hk
  · unfold BatP.Lo
    rw [← hrow, ← hlen]
    show (W.heap.push _)[W.heap.size]? = _
    simp
  · exact ((Below.refl _ W).drew).alloc (Nat.le_refl _) _
theorem Hp.Sh.ofBelow {w0 w : World} (h : Below w0.heap.size w0 w) : Hp.Sh w0 w [] (fun _ => True) := ⟨h, by simp, by simp, by simp, fun _ _ => trivial⟩
end Go.Proofs.Ytkjmhnbijbpmkaa
