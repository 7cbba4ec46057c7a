
/-
  What Put and Get of blocks do.
-/
import Derived.Test.YtedcnoajadnhnaaIdx5
import Derived.Test.YtedcnoajadnhnaaIdx3
namespace Go.Proofs.Ytedcnoajadnhnaa
open Go.RowKit
set_option linter.unusedVariables false
namespace IdxP
theorem put_len {l : List Bk} (hB : ∀ b ∈ l, BkB b) : (putI l).1.length ≤ 900000 := by
  unfold putI
  split
  · simp
  · rename_i h1
    split
    · rename_i h2
      have key : ∀ m : List Bk, (∀ b ∈ m, BkB b ∧ fitB b = true) → (m.flatMap putB).length ≤ 70 * m.length := by
        intro m
        induction m with
        | nil => intro _; simp
        | cons b r ih =>
          intro h
          have q := ih (fun x hx => h x (by simp [hx]))
          have p := putB_len (h b (by simp)).1 (h b (by simp)).2
          rw [List.flatMap_cons, List.length_append, List.length_cons]
          omega
      have k := key l (fun b hb => ⟨hB b hb, List.all_eq_true.1 h2 b hb⟩)
      have p := WireP.putL_le10 l.length (by omega)
      dsimp only
      rw [List.length_append]
      omega
    · simp
end IdxP
theorem kput (s : Option Addr) (l : List QryP.Bk) (n c : Nat) (hn : n = l.length) (hnm : n ≤ 9223372036854775807) (hB : ∀ b ∈ l, IdxP.BkB b) {t : List UInt8} {er : Int} (hX : IdxP.putI l = (t, er)) (w : World) (hR : Hp.RdV w s (l.flatMap QryP.bc)) :
    Calls Try.prog 20 #[.slice s n c] w fun e w' => e = .returned (.tuple #[.string (bstr t), .int .i64 er]) ∧ Below w.heap.size w w' := by
  have h := iput14 s l n c hn hnm hB w hR
  unfold IdxP.PutP at h
  rw [hX] at h
  exact h
theorem kget (l : List UInt8) (hl : l.length ≤ 140737488351232) {bs : List QryP.Bk} {n : Nat} {er : Int} (hX : IdxP.getI l = (bs, er)) (hn : n = bs.length) (w : World) :
    Calls Try.prog 21 #[.string (bstr l)] w fun e w' => ∃ s c, e = .returned (.tuple #[.slice s n c, .int .i64 er]) ∧ (∀ p, s = some p → w.heap.size ≤ p.block) ∧ Hp.RdV w' s (bs.flatMap QryP.bc) ∧ Below w.heap.size w w' ∧ n ≤ c ∧ c ≤ maxLen := by
  have h := iget14 l hl w
  rw [hX] at h
  subst hn
  refine Calls.mono h ?_
  rintro e w' ⟨s, c, rfl, h1, h2, h3, h4, h5, h6⟩
  exact ⟨s, c, rfl, h1, h2, h3, h4, h5⟩
end Go.Proofs.Ytedcnoajadnhnaa
