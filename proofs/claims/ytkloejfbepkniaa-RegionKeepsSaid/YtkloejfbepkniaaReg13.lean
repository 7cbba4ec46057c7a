/-
  Plain laws for RegionKeeps.
-/
import Derived.Test.YtkloejfbepkniaaReg12
namespace Go.Proofs.Ytkloejfbepkniaa
open Go.RowKit
set_option linter.unusedVariables false

namespace RegP
theorem splice_get {α : Type} {ws l : List α} {o i : Nat} (h : o + l.length ≤ ws.length) (hi : i < ws.length) : (splice ws o l)[i]'(by rw [splice_len h]; exact hi) = if hx : o ≤ i ∧ i < o + l.length then l[i - o]'(by omega) else ws[i] := by
  have e : (splice ws o l)[i]? = some (if hx : o ≤ i ∧ i < o + l.length then l[i - o]'(by omega) else ws[i]) := by
    unfold splice
    by_cases h1 : i < o
    · rw [dif_neg (by omega), List.getElem?_append_left (by simp; omega), List.getElem?_take, if_pos h1]; simp [hi]
    · by_cases h2 : i < o + l.length
      · rw [dif_pos ⟨by omega, h2⟩, List.getElem?_append_right (by simp; omega), List.getElem?_append_left (by simp; omega)]
        have e1 : i - (List.take o ws).length = i - o := by simp; omega
        rw [e1, List.getElem?_eq_getElem (by omega)]
      · rw [dif_neg (by omega), List.getElem?_append_right (by simp; omega), List.getElem?_append_right (by simp; omega), List.getElem?_drop]
        have e1 : o + l.length + (i - (List.take o ws).length - l.length) = i := by simp; omega
        rw [e1]; simp [hi]
  rw [List.getElem?_eq_getElem (by rw [splice_len h]; exact hi)] at e
  exact Option.some.inj e
theorem pc_all {n : Nat} (h1 : 1 ≤ n) (k : Nat) : pc n 0 n 0 k = if k ≤ n then 0 else 6 := by
  unfold pc
  rw [if_pos (show oc n 0 n = true from decide_eq_true ⟨by omega, by omega, by omega⟩)]
  by_cases h : k ≤ n
  · rw [if_pos h, if_neg (by omega)]
  · rw [if_neg h, if_pos (by omega)]
/-- A memory's words behind the first words that were laid. -/
def firstW (n : Nat) (l : List Int) : List Int := layW n (List.replicate n 0) 0 n 0 l
theorem first_len {n : Nat} {l : List Int} : (firstW n l).length = n := lay_len (by simp)
theorem first_in {n : Nat} {l : List Int} (h1 : 1 ≤ n) {i : Nat} (hi : i < n) (hl : l.length ≤ n) (hil : i < l.length) : (firstW n l)[i]'(by rw [first_len]; exact hi) = l[i] := by
  have e : firstW n l = splice (List.replicate n 0) 0 l := by unfold firstW layW; rw [pc_all h1, if_pos hl, if_pos rfl]; rfl
  have := splice_get (ws := List.replicate n (0 : Int)) (l := l) (o := 0) (i := i) (by simpa using hl) (by simpa using hi)
  rw [dif_pos ⟨by omega, by omega⟩] at this
  simp only [e, this, Nat.sub_zero]
theorem first_out {n : Nat} {l : List Int} (h1 : 1 ≤ n) {i : Nat} (hi : i < n) (hx : l.length ≤ i ∨ n < l.length) : (firstW n l)[i]'(by rw [first_len]; exact hi) = 0 := by
  by_cases hl : l.length ≤ n
  · have e : firstW n l = splice (List.replicate n 0) 0 l := by unfold firstW layW; rw [pc_all h1, if_pos hl, if_pos rfl]; rfl
    have := splice_get (ws := List.replicate n (0 : Int)) (l := l) (o := 0) (i := i) (by simpa using hl) (by simpa using hi)
    rw [dif_neg (by omega)] at this
    simp only [e, this, List.getElem_replicate]
  · have e : firstW n l = List.replicate n 0 := by unfold firstW layW; rw [pc_all h1, if_neg hl, if_neg (by decide)]
    simp only [e, List.getElem_replicate]
theorem take_lay {n : Nat} {ws l : List Int} {b z a : Int} (hws : ws.length = n) (hp : pc n b z a l.length = 0) : takeW n (layW n ws b z a l) b z a l.length = l := by
  unfold takeW layW
  rw [if_pos hp, if_pos hp]
  obtain ⟨b', z', a', k', rfl, rfl, rfl, e4, e5, e6, e7⟩ := pc_zero hp
  rw [show ((b' : Int) + (a' : Int)).toNat = b' + a' by omega, Int.toNat_natCast]
  unfold splice
  have e1 : (ws.take (b' + a')).length = b' + a' := by simp; omega
  rw [List.drop_append_of_le_length (by omega), List.drop_of_length_le (by omega), List.nil_append, List.take_append_of_le_length (by omega), List.take_of_length_le (by omega)]
theorem lay_get {n : Nat} {ws l : List Int} {b z a : Nat} (hws : ws.length = n) (hp : pc n b z a l.length = 0) {i : Nat} (hi : i < n) : (layW n ws b z a l)[i]'(by rw [lay_len hws]; exact hi) = if hx : b + a ≤ i ∧ i < b + a + l.length then l[i - (b + a)]'(by omega) else ws[i] := by
  have e : layW n ws b z a l = splice ws (b + a) l := by unfold layW; rw [if_pos hp, show ((b : Int) + (a : Int)).toNat = b + a by omega]
  obtain ⟨b', z', a', k', e1, e2, e3, e4, e5, e6, e7⟩ := pc_zero hp
  have := splice_get (ws := ws) (l := l) (o := b + a) (i := i) (by omega) (by omega)
  simp only [e, this]
theorem lay_no {n : Nat} {ws l : List Int} {b z a : Int} (hp : pc n b z a l.length ≠ 0) : layW n ws b z a l = ws := by unfold layW; rw [if_neg hp]
theorem first_in? {n : Nat} {l : List Int} (h1 : 1 ≤ n) {i : Nat} (hi : i < n) (hl : l.length ≤ n) (hil : i < l.length) : (firstW n l)[i]? = some l[i] := by
  rw [List.getElem?_eq_getElem (by rw [first_len]; exact hi), first_in h1 hi hl hil]
theorem first_out? {n : Nat} {l : List Int} (h1 : 1 ≤ n) {i : Nat} (hi : i < n) (hx : l.length ≤ i ∨ n < l.length) : (firstW n l)[i]? = some 0 := by
  rw [List.getElem?_eq_getElem (by rw [first_len]; exact hi), first_out h1 hi hx]
theorem lay_get? {n : Nat} {ws l : List Int} {b z a : Nat} (hws : ws.length = n) (hp : pc n b z a l.length = 0) {i : Nat} (hi : i < n) : (layW n ws b z a l)[i]? = some (if hx : b + a ≤ i ∧ i < b + a + l.length then l[i - (b + a)]'(by omega) else ws[i]) := by
  rw [List.getElem?_eq_getElem (by rw [lay_len hws]; exact hi), lay_get hws hp hi]
theorem at_of {α : Type} {ws : List α} {i : Nat} {y : α} (h : ws[i]? = some y) (g : i < ws.length) : ws[i] = y := by
  rw [List.getElem?_eq_getElem g] at h; exact Option.some.inj h
end RegP

end Go.Proofs.Ytkloejfbepkniaa
