
/-
  The walk of Put's closure: numbers written into a builder.
-/
import Derived.Test.YtedcnoajadnhnaaIdx3
import Derived.Test.YtedcnoajadnhnaaBldShelf
namespace Go.Proofs.Ytedcnoajadnhnaa
open Go.RowKit
set_option linter.unusedVariables false
set_option linter.unusedSimpArgs false
theorem BldTo.refl {B b : Nat} {l : List UInt8} {w : World} (h : Bld B b l w) : BldTo B b l w w := ⟨h, Below.refl _ _, Lib.OthersKept.refl _ _ _⟩
theorem BldTo.trans {B b : Nat} {l m : List UInt8} {w w' w'' : World} (h : BldTo B b l w w') (k : BldTo B b m w' w'') : BldTo B b m w w'' := ⟨k.1, h.2.1.trans k.2.1, h.2.2.trans k.2.2⟩
theorem Bld.below {B b : Nat} {l : List UInt8} {w w' : World} (h : Bld B b l w) (hb : Below w.heap.size w w') : Bld B b l w' := by
  have aux : ∀ p, Lib.BuilderAtF 65 5 B b p (Lib.byteCells l) w → Lib.BuilderAtF 65 5 B b p (Lib.byteCells l) w' := by
    rintro p ⟨h1, v, h2, ⟨h3, h4⟩, h5⟩
    refine ⟨h1, v, ?_, ⟨h3, ?_⟩, h5⟩
    · rw [hb.block b (Array.getElem?_eq_some_iff.1 h2).1]; exact h2
    · rcases h4 with h4 | ⟨g, cap, cur, fz, k1, k2, k3, k4⟩
      · exact .inl h4
      · exact .inr ⟨g, cap, cur, fz, k1, k2, by rw [hb.block g (Array.getElem?_eq_some_iff.1 k3).1]; exact k3, k4⟩
  exact ⟨h.1.imp (aux _) (aux _), Nat.le_trans h.2 hb.size⟩

theorem BldTo.call {B b : Nat} {l : List UInt8} {w w' w'' : World} (h : BldTo B b l w w') (k : Below w'.heap.size w' w'') : BldTo B b l w w'' :=
  ⟨h.1.below k, h.2.1.trans (k.mono h.1.2 : Below B w' w''), h.2.2.trans fun i o hi _ _ => by rw [k.block i (Array.getElem?_eq_some_iff.1 hi).1]; exact hi⟩
namespace IdxP
def u64s (ns : List Nat) : List Value := ns.map (fun n : Nat => Value.int .u64 (n : Int))
theorem u64s_get {ns : List Nat} {k : Nat} (h : k < ns.length) : (u64s ns)[k]? = some (.int .u64 (ns[k] : Int)) := by simp [u64s, h]
end IdxP

set_option maxHeartbeats 4000000 in
set_option maxRecDepth 100000 in
theorem ilayn (B b g : Nat) (l : List UInt8) (ns : List Nat) (n c : Nat) (cur : Array Value) (w : World) (hn : n = ns.length) (hnm : n ≤ 100) (hns : ∀ x ∈ ns, x < 18446744073709551616) (hl : l.length ≤ 900000) (hB : Bld B b l w) (hg : w.heap[g]? = some (.cells cur 22 (0, 0))) (hne : g ≠ b) (hcur : ∀ (i : Nat) (v : Value), (IdxP.u64s ns)[i]? = some v → cur[i]? = some v) :
    Calls Try.prog 44 #[.slice (some ⟨g, 0, none⟩) n c, .pointer (some ⟨b, 0, none⟩)] w fun e w' => e = .returned (.tuple #[]) ∧ BldTo B b (l ++ ns.flatMap WireP.putL) w w' := by
  have HS := Lib.hid (BldTo.refl hB)
  have HL := Lib.hid hn
  have HG := Lib.hid (And.intro hg (And.intro hne hcur))
  have HN := Lib.hid hns
  clear hB hg hne hcur hns hn
  go_enter Try.func44, Try.ntmps44
  go_wp2_with fail
  go_loopw [7] (fun i wr => ∃ k : Nat, i = .int .i64 k ∧ k ≤ n ∧ Hid (BldTo B b (l ++ (ns.take k).flatMap WireP.putL) w wr ∧ ((ns.take k).flatMap WireP.putL).length ≤ 10 * k)) (fun i _ => n - (intOf i).toNat)
  case atStart => exact ⟨0, rfl, by omega, ⟨by simpa using HS.out, by simp⟩⟩
  case round =>
    obtain ⟨k, rfl, hk, HK⟩ := hrel
    by_cases hlt : k < n
    · have hlI : (k : Int) < (n : Int) := by omega
      have hkL : k < ns.length := by rw [← HL.out]; exact hlt
      have hgw := HK.out.1.2.2 g _ HG.out.1 (fun e => HG.out.2.1 (Option.some.inj e)) (fun c fz e => by cases e)
      have hc := Hp.boxH hgw k (HG.out.2.2 k _ (IdxP.u64s_get hkL))
      have hx := HN.out _ (List.getElem_mem hkL)
      have KP := Lib.hid (fun W => wirePut_any ns[k] W hx)
      have hpl := WireP.putL_le10 ns[k] hx
      have KS := Lib.hid (fun W (h : Bld B b (l ++ (ns.take k).flatMap WireP.putL) W) => bld_str B b (l ++ (ns.take k).flatMap WireP.putL) (bstr (WireP.putL ns[k])) W h (by have := HK.out.2; rw [List.length_append]; omega) (by rw [bstr_size]; omega))
      have HT := Lib.hid (show (ns.take (k + 1)).flatMap WireP.putL = (ns.take k).flatMap WireP.putL ++ WireP.putL ns[k] by rw [List.take_add_one, List.getElem?_eq_getElem hkL, List.flatMap_append]; simp)
      have HPL := Lib.hid hpl
      clear hgw hx hpl
      generalize ns[k] = x at hc KP KS HT HPL
      go_wp2_with fail
      go_fit (KP.out _)
      rintro e w1 ⟨rfl, hb1⟩
      have HK1 := Lib.hid (HK.out.1.call hb1)
      clear hb1 hc
      go_wp2_with fail
      go_fit (KS.out _ HK1.out.1)
      rintro e w2 ⟨rfl, hb2⟩
      have HK2 := Lib.hid (HK1.out.trans hb2)
      clear hb2
      go_wp2_with fail
      go_roundw
      case rel => exact ⟨k + 1, by go_num, by omega, ⟨by rw [HT.out, ← List.append_assoc]; exact HK2.out, by rw [HT.out, List.length_append]; have := HK.out.2; have := HPL.out; omega⟩⟩
      case measure => simp [intOf]; omega
    · obtain rfl : k = n := by omega
      have HE := Lib.hid (show ns.take k = ns by rw [HL.out, List.take_length])
      go_wp2_with fail
      go_end0
      exact ⟨rfl, by have := HK.out.1; rw [HE.out] at this; exact this⟩

end Go.Proofs.Ytedcnoajadnhnaa