
/-
  The walks of short and of RegionDoes.
-/
import Derived.Test.YtfioeliejblboaaReg8
import Derived.Test.YtfioeliejblboaaRowC
namespace Go.Proofs.Ytfioeliejblboaa
open Go.RowKit
set_option linter.unusedVariables false
set_option linter.unusedSimpArgs false

namespace RegP
abbrev Stp := Int × Int × Int × Int × Int × Int × (Option Addr × Nat × Nat) × Int × Int × (Option Addr × List Int × Nat)
def stc (s : Stp) : List Value := [.int .i64 s.1, .int .i64 s.2.1, .int .i64 s.2.2.1, .int .i64 s.2.2.2.1, .int .i64 s.2.2.2.2.1, .int .i64 s.2.2.2.2.2.1, .slice s.2.2.2.2.2.2.1.1 s.2.2.2.2.2.2.1.2.1 s.2.2.2.2.2.2.1.2.2, .int .i64 s.2.2.2.2.2.2.2.1, .int .i64 s.2.2.2.2.2.2.2.2.1, .slice s.2.2.2.2.2.2.2.2.2.1 s.2.2.2.2.2.2.2.2.2.2.1.length s.2.2.2.2.2.2.2.2.2.2.2]
theorem stc_len (s : Stp) : (stc s).length = 10 := rfl
def I64 (x : Int) : Prop := -9223372036854775808 ≤ x ∧ x ≤ 9223372036854775807
/-- What is known of a step's numbers. -/
def StB (s : Stp) : Prop := I64 s.1 ∧ I64 s.2.1 ∧ I64 s.2.2.1 ∧ I64 s.2.2.2.1 ∧ I64 s.2.2.2.2.1 ∧ s.2.2.2.2.2.2.2.2.2.2.1.length ≤ 9223372036854775807
/-- Each step's words lie where it says. -/
def StOk (S : List Stp) (W : World) : Prop := ∀ s ∈ S, Hp.RdV W s.2.2.2.2.2.2.2.2.2.1 (ints s.2.2.2.2.2.2.2.2.2.2.1)
theorem StOk.rob {S : List Stp} {W : World} (h : StOk S W) : Hp.Rob (fun _ => False) W (StOk S) := fun W' ho s hs => (h s hs).below ho (fun _ _ q => q)
theorem st_cells {W : World} {p : Addr} {S : List Stp} (hR : Hp.RdV W (some p) (S.flatMap stc)) {k : Nat} (h : k < S.length) :
    let s := S[k]
    W.cell? (p.add (k * 10)) = some (.int .i64 s.1) ∧ W.cell? ⟨(p.add (k * 10)).block, (p.add (k * 10)).off + 1, none⟩ = some (.int .i64 s.2.1) ∧ W.cell? ⟨(p.add (k * 10)).block, (p.add (k * 10)).off + 2, none⟩ = some (.int .i64 s.2.2.1) ∧ W.cell? ⟨(p.add (k * 10)).block, (p.add (k * 10)).off + 3, none⟩ = some (.int .i64 s.2.2.2.1) ∧
      W.cell? ⟨(p.add (k * 10)).block, (p.add (k * 10)).off + 4, none⟩ = some (.int .i64 s.2.2.2.2.1) ∧ W.cell? ⟨(p.add (k * 10)).block, (p.add (k * 10)).off + 5, none⟩ = some (.int .i64 s.2.2.2.2.2.1) ∧ W.cell? ⟨(p.add (k * 10)).block, (p.add (k * 10)).off + 6, none⟩ = some (.slice s.2.2.2.2.2.2.1.1 s.2.2.2.2.2.2.1.2.1 s.2.2.2.2.2.2.1.2.2) ∧
      W.cell? ⟨(p.add (k * 10)).block, (p.add (k * 10)).off + 7, none⟩ = some (.int .i64 s.2.2.2.2.2.2.2.1) ∧ W.cell? ⟨(p.add (k * 10)).block, (p.add (k * 10)).off + 8, none⟩ = some (.int .i64 s.2.2.2.2.2.2.2.2.1) ∧ W.cell? ⟨(p.add (k * 10)).block, (p.add (k * 10)).off + 9, none⟩ = some (.slice s.2.2.2.2.2.2.2.2.2.1 s.2.2.2.2.2.2.2.2.2.2.1.length s.2.2.2.2.2.2.2.2.2.2.2) := by
  have g := fun j hj v hv => Hp.row_cellS stc_len hR h j hj (v := v) hv
  exact ⟨Hp.row_cell0 stc_len hR h rfl, g 1 (by decide) _ rfl, g 2 (by decide) _ rfl, g 3 (by decide) _ rfl, g 4 (by decide) _ rfl, g 5 (by decide) _ rfl, g 6 (by decide) _ rfl, g 7 (by decide) _ rfl, g 8 (by decide) _ rfl, g 9 (by decide) _ rfl⟩
def ShortP (sn : Nat) (w : World) (e : Ending) (w' : World) : Prop := ∃ b : Bool, e = .returned (.bool b) ∧ (b = true → sn ≤ 100) ∧ Below w.heap.size w w'
theorem min1000 (n : Nat) : (if (1000 : Int) < n then (1000 : Int) else n) = ((min n 1000 : Nat) : Int) := by split <;> omega
def stepS (n : Nat) (ws : List Int) (s : Stp) : List Int := stepW n ws s.1 s.2.1 s.2.2.1 s.2.2.2.1 s.2.2.2.2.1 s.2.2.2.2.2.2.2.2.2.2.1
theorem set_len {n : Nat} {ws : List Int} {b z a v : Int} : (setW n ws b z a v).length = ws.length := by unfold setW; split <;> simp
theorem lay_len {n : Nat} {ws l : List Int} {b z a : Int} (h : ws.length = n) : (layW n ws b z a l).length = n := by
  unfold layW
  split
  · rename_i hp
    obtain ⟨b', z', a', k', rfl, rfl, rfl, h4, h5, h6, h7⟩ := pc_zero hp
    rw [splice_len (by omega)]; exact h
  · exact h
theorem clear_len {n : Nat} {ws : List Int} {b z : Int} (h : ws.length = n) : (clearW n ws b z).length = n := by
  unfold clearW
  split
  · rename_i hp
    obtain ⟨b', z', rfl, rfl, h3, h4⟩ := oc_nat hp
    rw [splice_len (by simp; omega)]; exact h
  · exact h
theorem step_len {n : Nat} {ws : List Int} {s : Stp} (h : ws.length = n) : (stepS n ws s).length = n := by
  unfold stepS stepW
  split
  · rw [set_len]; exact h
  · split
    · exact lay_len h
    · split
      · exact clear_len h
      · exact h
theorem view_all {n : Nat} {ws : List Int} (h : ws.length = n) (h1 : 1 ≤ n) : viewW n ws 0 n = ws := by
  unfold viewW
  rw [if_pos (show oc n 0 n = true from decide_eq_true ⟨by omega, by omega, by omega⟩)]
  simp [← h]
end RegP

theorem sameT2 (s r : Option Addr) (zs : List Int) (n c d : Nat) (w : World) (hz : zs.length = n) (hs : Hp.RdV w s (ints zs)) (hr : Hp.RdV w r (ints zs)) (hn : n ≤ 9223372036854775807) :
    Calls Try.prog 13 #[.slice s zs.length c, .slice r n d] w fun e w' => e = .returned (.bool true) ∧ Below w.heap.size w w' := by
  subst hz
  exact sameT s r zs c d w hs hr hn

end Go.Proofs.Ytfioeliejblboaa
