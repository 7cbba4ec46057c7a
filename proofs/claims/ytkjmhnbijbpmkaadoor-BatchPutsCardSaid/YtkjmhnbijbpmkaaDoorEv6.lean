
/-
  The walk of the reference's Get.
-/
import Derived.Test.YtkjmhnbijbpmkaaDoorEv5
namespace Go.Proofs.YtkjmhnbijbpmkaaDoor
open Go.RowKit
set_option linter.unusedVariables false
set_option linter.unusedSimpArgs false

namespace EvP
def nths (l : List UInt8) (k : Nat) : List Value := (List.range k).map fun j => .int .u64 (nth l (j + 1) : Int)
theorem nths_snoc (l : List UInt8) (k : Nat) : nths l k ++ [.int .u64 (nth l (k + 1) : Int)] = nths l (k + 1) := by unfold nths; rw [List.range_succ, List.map_append]; rfl
theorem nths_length (l : List UInt8) (k : Nat) : (nths l k).length = k := by simp [nths]
theorem nths_get {l : List UInt8} {k i : Nat} (h : i < k) : (nths l k)[i]? = some (.int .u64 (nth l (i + 1) : Int)) := by simp [nths, h]
theorem st_next {l : List UInt8} {k : Nat} (h : (st l k).2.2 = 0) : WireP.takeL (st l k).2.1 = st l (k + 1) := by rw [st]; unfold tk; rw [if_neg (by rw [h]; simp)]
theorem nth_fits {l : List UInt8} (h : ∀ j, 1 ≤ j → j < 5 → nth l (j + 1) ≤ 1099511627776) : fitsB l = true := decide_eq_true ⟨h 1 (by omega) (by omega), h 2 (by omega) (by omega), h 3 (by omega) (by omega), h 4 (by omega) (by omega)⟩
theorem nth_not {l : List UInt8} {j : Nat} (h1 : 1 ≤ j) (h2 : j < 5) (h : ¬ nth l (j + 1) ≤ 1099511627776) : fitsB l = false := by
  refine decide_eq_false (fun q => h ?_)
  have h3 : j = 1 ∨ j = 2 ∨ j = 3 ∨ j = 4 := by omega
  rcases h3 with rfl | rfl | rfl | rfl
  · exact q.1
  · exact q.2.1
  · exact q.2.2.1
  · exact q.2.2.2
theorem fits_le {l : List UInt8} (h : fitsB l = true) : nth l 2 ≤ 1099511627776 ∧ nth l 3 ≤ 1099511627776 ∧ nth l 4 ≤ 1099511627776 ∧ nth l 5 ≤ 1099511627776 := of_decide_eq_true h
theorem row_snoc {e : TypeId} {v : Value} {l : List UInt8} {k : Nat} {R : List Hp.Blk} (h : Hp.RowIs e 1 v (k + 1) (nths l k ++ [.int .u64 (nth l (k + 1) : Int)]) R) : Hp.RowIs e 1 v (k + 1) (nths l (k + 1)) R := by rw [nths_snoc] at h; exact h
theorem nths_cells {W : World} {l : List UInt8} {g : Nat} (h : Hp.RdV W (some ⟨g, 0, none⟩) (nths l 5)) : W.cell? ⟨g, 0, none⟩ = some (.int .u64 (nth l 1 : Int)) ∧ W.cell? ⟨g, 1, none⟩ = some (.int .u64 (nth l 2 : Int)) ∧ W.cell? ⟨g, 2, none⟩ = some (.int .u64 (nth l 3 : Int)) ∧ W.cell? ⟨g, 3, none⟩ = some (.int .u64 (nth l 4 : Int)) ∧ W.cell? ⟨g, 4, none⟩ = some (.int .u64 (nth l 5 : Int)) := by
  have key : ∀ j, j < 5 → W.cell? ⟨g, j, none⟩ = some (.int .u64 (nth l (j + 1) : Int)) := fun j hj => by
    have := h.cell j (nths_get (l := l) hj)
    rwa [Hp.add_head] at this
  exact ⟨key 0 (by omega), key 1 (by omega), key 2 (by omega), key 3 (by omega), key 4 (by omega)⟩
theorem nths_cell {W : World} {l : List UInt8} {g k : Nat} (hk : k < 5) (h : Hp.RdV W (some ⟨g, 0, none⟩) (nths l 5)) : W.cell? ⟨g, k, none⟩ = some (.int .u64 (nth l (k + 1) : Int)) := by
  have := h.cell k (nths_get (l := l) hk)
  rwa [Hp.add_head] at this
end EvP
theorem Hp.RowIs.head {e : TypeId} {v : Value} {n : Nat} {xs : List Value} {R : List Hp.Blk} (h : Hp.RowIs e 1 v n xs R) (hn : 0 < n) : ∃ g cap, v = .slice (some ⟨g, 0, none⟩) n cap ∧ n ≤ cap := by
  rcases h.2 with ⟨-, rfl, -⟩ | ⟨g, cap, cur, rfl, _, h1, _⟩
  · omega
  · exact ⟨g, cap, rfl, h1⟩

theorem Tryd.i_u64 : (Tryd.prog.info? 22).map (fun i => (i.zero, i.size, i.bytes)) = some (some (.int .u64 0), 1, 8) := by kernel_rfl
end Go.Proofs.YtkjmhnbijbpmkaaDoor
