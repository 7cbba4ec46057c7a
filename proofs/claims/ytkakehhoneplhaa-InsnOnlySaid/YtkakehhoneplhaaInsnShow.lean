/-
  The walk of insn.Show: its two closures over a builder.
-/
import Derived.Test.YtkakehhoneplhaaInsnShelf
namespace Go.Proofs.Ytkakehhoneplhaa
open Go.RowKit
set_option linter.unusedVariables false
set_option linter.unusedSimpArgs false

namespace InsP
def dec (n : Nat) : List UInt8 := if n ≤ 9 then [UInt8.ofNat (48 + n)] else dec (n / 10) ++ [UInt8.ofNat (48 + n % 10)]
decreasing_by omega
theorem dec_le {n : Nat} (h : n ≤ 9) : dec n = [UInt8.ofNat (48 + n)] := by rw [dec, if_pos h]
theorem dec_gt {n : Nat} (h : 9 < n) : dec n = dec (n / 10) ++ [UInt8.ofNat (48 + n % 10)] := by rw [dec, if_neg (by omega)]
theorem dec_len (k : Nat) : ∀ n, n < 10 ^ k → (dec n).length ≤ k + 1 := by
  induction k with
  | zero => intro n hn; rw [dec_le (by simp at hn; omega)]; simp
  | succ k ih =>
    intro n hn
    by_cases h : n ≤ 9
    · rw [dec_le h]; simp
    · rw [dec_gt (by omega), List.length_append]
      have := ih (n / 10) (by rw [Nat.pow_succ] at hn; omega)
      simp; exact this
theorem dec_len32 {n : Nat} (h : n < 4294967296) : (dec n).length ≤ 11 := dec_len 10 n (by omega)
def fv (bd b : Nat) : Value := .func (.func 25) #[] #[.pointer (some ⟨bd, 0, none⟩), .pointer (some ⟨b, 0, none⟩)]
/-- The variable that holds the closure. -/
def At (bd b : Nat) (w : World) : Prop := w.heap[bd]? = some (.cells #[fv bd b] 51 (0, 0)) ∧ bd ≠ b
theorem At.kept {bd b : Nat} {w w' : World} (h : At bd b w) (k : Lib.OthersKept 5 (some b) w w') : At bd b w' :=
  ⟨k bd _ h.1 (fun e => h.2 (Option.some.inj e)) (fun c fz e => by cases e), h.2⟩
theorem At.cell {bd b : Nat} {w : World} (h : At bd b w) : w.cell? ⟨bd, 0, none⟩ = some (fv bd b) := by simp [World.cell?, h.1]
end InsP

theorem BldTo.refl {B b : Nat} {l : List UInt8} {w : World} (h : Bld B b l w) : BldTo B b l w w := ⟨h, Below.refl _ _, Lib.OthersKept.refl _ _ _⟩
theorem BldTo.trans {B b : Nat} {l m : List UInt8} {w w' w'' : World} (h : BldTo B b l w w') (k : BldTo B b m w' w'') : BldTo B b m w w'' := ⟨k.1, h.2.1.trans k.2.1, h.2.2.trans k.2.2⟩

set_option maxHeartbeats 2000000 in
set_option maxRecDepth 100000 in
theorem idigits (B b bd : Nat) : ∀ (n : Nat) (l : List UInt8) (w : World), n < 4294967296 → l.length + (InsP.dec n).length ≤ 1000 → Bld B b l w → InsP.At bd b w →
    Calls Try.prog 25 #[.int .u32 n, .pointer (some ⟨bd, 0, none⟩), .pointer (some ⟨b, 0, none⟩)] w fun e w' => e = .returned (.tuple #[]) ∧ BldTo B b (l ++ InsP.dec n) w w' := by
  intro n
  induction n using Nat.strongRecOn with
  | ind n ih =>
    intro l w hn hl hb ha
    by_cases h9 : 9 < n
    · rw [InsP.dec_gt h9, List.length_append, List.length_singleton] at hl
      rw [InsP.dec_gt h9]
      have IH := Lib.hid (ih (n / 10) (by omega) l w (by omega) (by omega) hb ha)
      have hcell := ha.cell
      unfold InsP.fv at hcell
      have h9I : (9 : Int) < (n : Int) := by omega
      have HB := Lib.hid (fun w1 hb1 => bld_byte B b (l ++ InsP.dec (n / 10)) (UInt8.ofNat (48 + n % 10)) w1 hb1 (by rw [List.length_append]; omega))
      clear ih ha hb hl
      rw [show ((n / 10 : Nat) : Int) = (n : Int) / 10 by omega] at IH
      rw [show ((UInt8.ofNat (48 + n % 10)).toNat : Int) = 48 + (n : Int) % 10 by simp; omega] at HB
      go_enter Try.func25, Try.ntmps25
      go_wp2_with fail
      go_fit IH.out
      rintro e w1 ⟨rfl, ht⟩
      go_wp2_with fail
      go_fit (HB.out _ ht.1)
      rintro e w2 ⟨rfl, ht2⟩
      go_wp2
      go_end0
      exact ⟨rfl, by rw [← List.append_assoc]; exact ht.trans ht2⟩
    · rw [InsP.dec_le (by omega)]
      have h9I : ¬ (9 : Int) < (n : Int) := by omega
      have HB := Lib.hid (bld_byte B b l (UInt8.ofNat (48 + n)) w hb (by omega))
      rw [show ((UInt8.ofNat (48 + n)).toNat : Int) = 48 + (n : Int) % 10 by simp; omega] at HB
      clear ih ha hb hl
      go_enter Try.func25, Try.ntmps25
      go_wp2_with fail
      go_fit HB.out
      rintro e w2 ⟨rfl, ht2⟩
      go_wp2
      go_end0
      exact ⟨rfl, ht2⟩

theorem Bld.below {B b : Nat} {l : List UInt8} {w w' : World} (h : Bld B b l w) (hb : Below w.heap.size w w') : Bld B b l w' := by
  have aux : ∀ p, Lib.BuilderAtF 50 5 B b p (Lib.byteCells l) w → Lib.BuilderAtF 50 5 B b p (Lib.byteCells l) w' := by
    rintro p ⟨h1, v, h2, ⟨h3, h4⟩, h5⟩
    refine ⟨h1, v, ?_, ⟨h3, ?_⟩, h5⟩
    · rw [hb.block b (Array.getElem?_eq_some_iff.1 h2).1]; exact h2
    · rcases h4 with h4 | ⟨g, cap, cur, fz, k1, k2, k3, k4⟩
      · exact .inl h4
      · exact .inr ⟨g, cap, cur, fz, k1, k2, by rw [hb.block g (Array.getElem?_eq_some_iff.1 k3).1]; exact k3, k4⟩
  exact ⟨h.1.imp (aux _) (aux _), Nat.le_trans h.2 hb.size⟩

set_option maxHeartbeats 2000000 in
set_option maxRecDepth 100000 in
theorem ilay (B b bd : Nat) (s : ByteArray) (n : Nat) (l : List UInt8) (w : World) (hn : n < 4294967296) (hl : l.length ≤ 400) (hs : s.size ≤ 400) (hb : Bld B b l w) (ha : InsP.At bd b w) :
    Calls Try.prog 27 #[.string s, .int .u32 n, .pointer (some ⟨b, 0, none⟩), .pointer (some ⟨bd, 0, none⟩)] w fun e w' => e = .returned (.tuple #[]) ∧ BldTo B b (l ++ s.data.toList ++ InsP.dec n) w w' := by
  have H1 := Lib.hid (bld_str B b l s w hb (by omega) (by omega))
  have hd := InsP.dec_len32 hn
  have hsz : s.data.toList.length ≤ 400 := by rw [Array.length_toList]; exact hs
  have H2 := Lib.hid (fun w1 (hb1 : Bld B b (l ++ s.data.toList) w1) (ha1 : InsP.At bd b w1) => idigits B b bd n (l ++ s.data.toList) w1 hn (by rw [List.length_append]; omega) hb1 ha1)
  have HA := Lib.hid ha
  clear ha hb hd hsz
  go_enter Try.func27, Try.ntmps27
  go_wp2_with fail
  go_fit H1.out
  rintro e w1 ⟨rfl, ht⟩
  have ha1 := HA.out.kept ht.2.2
  have hcell := ha1.cell
  unfold InsP.fv at hcell
  go_wp2_with fail
  go_fit (H2.out _ ht.1 ha1)
  rintro e w2 ⟨rfl, ht2⟩
  go_wp2
  go_end0
  exact ⟨rfl, ht.trans ht2⟩

end Go.Proofs.Ytkakehhoneplhaa
