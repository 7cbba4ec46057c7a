/-
  Layer 21, plain: a machine, its next instruction, a run.
-/
import Derived.Test.YtfioeliejblboaaArrs
import Derived.Test.YtfioeliejblboaaReg6
import Derived.Test.YtfioeliejblboaaInsn
namespace Go.Proofs.Ytfioeliejblboaa
open Go.RowKit
set_option linter.unusedVariables false
theorem Hp.Sh.drop4 {w0 w : World} {H : List Hp.Blk} {D : World → Prop} {x y z u : Hp.Blk} (h : Hp.Sh w0 w (x :: y :: z :: u :: H) D) : Hp.Sh w0 w H D := h.drop3.drop1
theorem Hp.Sh.drop5 {w0 w : World} {H : List Hp.Blk} {D : World → Prop} {x y z u v : Hp.Blk} (h : Hp.Sh w0 w (x :: y :: z :: u :: v :: H) D) : Hp.Sh w0 w H D := h.drop3.drop2
namespace PvP
/-- A machine: its place, and its registers. -/
abbrev Vm := Int × List Int
/-- Why it stands still: the kind, and a number. -/
abbrev Tr := Int × Int
def vmA (v : Vm) : Array Value := (Value.int .i64 v.1 :: ints v.2).toArray
def reg (R : List Int) (i : Nat) : Int := R.getD i 0
def trV (t : Tr) : Value := .agg #[.int .i64 t.1, .int .i64 t.2]
def zero8 : List Int := [0, 0, 0, 0, 0, 0, 0, 0]
/-- A machine's values are in range, and it has eight registers. -/
def VmB (v : Vm) : Prop := (-9223372036854775808 ≤ v.1 ∧ v.1 ≤ 9223372036854775807) ∧ v.2.length = 8 ∧ ∀ r ∈ v.2, 0 ≤ r ∧ r ≤ 4294967295
theorem ints_len (R : List Int) : (ints R).length = R.length := by simp [ints]
theorem ints_at {R : List Int} {i : Nat} (h : i < R.length) : (ints R)[i]? = some (.int .u32 (reg R i)) := by
  simp [ints, reg, List.getD_eq_getElem?_getD, h]
theorem vmA_size (v : Vm) : (vmA v).size = v.2.length + 1 := by simp [vmA, ints_len]
theorem vmA_pc (v : Vm) : (vmA v)[0]? = some (.int .i64 v.1) := by simp [vmA]
theorem vmA_reg {v : Vm} {i : Nat} (h : i < v.2.length) : (vmA v)[i + 1]? = some (.int .u32 (reg v.2 i)) := by
  have := ints_at h
  simpa [vmA] using this
theorem ones_vm (v : Vm) : Hp.ones (vmA v).toList = true := by
  show (Value.oneCell' (.int .i64 v.1) && Hp.ones (ints v.2)) = true
  have key : ∀ l : List Int, Hp.ones (ints l) = true := by
    intro l
    induction l with
    | nil => rfl
    | cons x r ih => show (Value.oneCell' (.int .u32 x) && Hp.ones (ints r)) = true; rw [ih]; rfl
  rw [key]; rfl
theorem vmA_set (v : Vm) (i : Nat) (x : Int) : (vmA v).setIfInBounds (i + 1) (.int .u32 x) = vmA (v.1, v.2.set i x) := by
  simp [vmA, ints, List.map_set]
theorem vmA_setpc (v : Vm) (x : Int) : (vmA v).setIfInBounds 0 (.int .i64 x) = vmA (x, v.2) := by
  simp [vmA]
theorem vmA_set' (pc : Int) (R : List Int) (i : Nat) (x : Int) : (vmA (pc, R)).setIfInBounds (1 + i) (.int .u32 x) = vmA (pc, R.set i x) := by
  rw [Nat.add_comm]; exact vmA_set (pc, R) i x
theorem vmA_setpc' (pc : Int) (R : List Int) (x : Int) : (vmA (pc, R)).setIfInBounds 0 (.int .i64 x) = vmA (x, R) := vmA_setpc (pc, R) x
theorem fit_vm {pc : Int} {R : List Int} (h : R.length = 8) {i : Nat} (hi : i < 8) : 1 + i + 1 ≤ (vmA (pc, R)).size := by rw [vmA_size]; dsimp only; omega
theorem fit_pc {pc : Int} {R : List Int} : 0 + 1 ≤ (vmA (pc, R)).size := by rw [vmA_size]; dsimp only; omega
theorem cellsAt_ints (w : World) (b : Nat) : ∀ (R : List Int) (j : Nat), Hp.CellsAt w b j (ints R) ↔ ∀ i, i < R.length → w.cell? ⟨b, j + i, none⟩ = some (.int .u32 (reg R i))
  | [], j => ⟨fun _ i h => by simp at h, fun _ => trivial⟩
  | x :: r, j => by
    show (w.cell? ⟨b, j, none⟩ = some (.int .u32 x) ∧ Hp.CellsAt w b (j + 1) (ints r)) ↔ _
    rw [cellsAt_ints w b r (j + 1)]
    constructor
    · rintro ⟨h1, h2⟩ i hi
      cases i with
      | zero => exact h1
      | succ i =>
        have := h2 i (by simpa using hi)
        rw [show j + 1 + i = j + (i + 1) by omega] at this
        exact this
    · intro h
      refine ⟨h 0 (by simp), fun i hi => ?_⟩
      have := h (i + 1) (by simpa using hi)
      rw [show j + 1 + i = j + (i + 1) by omega]
      exact this
theorem cellsAt_vm (w : World) (b : Nat) (pc : Int) (R : List Int) : Hp.CellsAt w b 0 (vmA (pc, R)).toList = (w.cell? ⟨b, 0, none⟩ = some (.int .i64 pc) ∧ ∀ i, i < R.length → w.cell? ⟨b, 1 + i, none⟩ = some (.int .u32 (reg R i))) := by
  apply propext
  show (w.cell? ⟨b, 0, none⟩ = some (.int .i64 pc) ∧ Hp.CellsAt w b 1 (ints R)) ↔ _
  rw [cellsAt_ints]

/-- What an instruction that asks for its registers alone makes of a machine (that stands at its next place). -/
def reck (v : Vm) (op a b n : Int) : Vm :=
  let ra := reg v.2 a.toNat; let rb := reg v.2 b.toNat
  if op = 1 then (v.1, v.2.set a.toNat n)
  else if op = 2 then (v.1, v.2.set a.toNat rb)
  else if op = 3 then (v.1, v.2.set a.toNat ((ra + rb) % 4294967296))
  else if op = 4 then (v.1, v.2.set a.toNat ((ra - rb) % 4294967296))
  else if op = 5 then (v.1, v.2.set a.toNat (bits .xor .u32 ra rb))
  else if op = 8 then (n, v.2)
  else if op = 9 then (if ra = 0 then (n, v.2) else v)
  else if op = 10 then (if ra < rb then (n, v.2) else v)
  else v
theorem reck_len {v : Vm} {op a b n : Int} (h : v.2.length = 8) : (reck v op a b n).2.length = 8 := by
  unfold reck
  dsimp only
  repeat' split
  all_goals (first | exact h | (rw [List.length_set]; exact h))
/-- The next instruction: the machine behind it, why it stands still, and the words of memory then. -/
def step (code : List Int) (n : Nat) (b z : Int) (ws : List Int) (v : Vm) : (Vm × Tr) × List Int :=
  if v.1 < 0 ∨ (code.length : Int) ≤ v.1 then ((v, (4, 1)), ws)
  else if (InsP.get (code.getD v.1.toNat 0)).2 ≠ 0 then ((v, (4, 1)), ws)
  else
    let x := (InsP.get (code.getD v.1.toNat 0)).1
    let at' := reg v.2 x.2.2.1.toNat + x.2.2.2
    if x.1 = 6 then (if RegP.pc n b z at' 1 = 0 then (((v.1 + 1, v.2.set x.2.1.toNat (RegP.getV n ws b z at')), (0, 0)), ws) else ((v, (4, 2)), ws))
    else if x.1 = 7 then (if RegP.pc n b z at' 1 = 0 then (((v.1 + 1, v.2), (0, 0)), RegP.setW n ws b z at' (reg v.2 x.2.1.toNat)) else ((v, (4, 2)), ws))
    else if x.1 = 11 then (((v.1 + 1, v.2), (1, x.2.2.2)), ws)
    else if x.1 = 12 then (((v.1 + 1, v.2), (2, 0)), ws)
    else if x.1 = 13 then (((v.1 + 1, v.2), (3, 0)), ws)
    else ((reck (v.1 + 1, v.2) x.1 x.2.1 x.2.2.1 x.2.2.2, (0, 0)), ws)
def StepP (g : Nat) (X : (Vm × Tr) × List Int) (w0 : World) (H : List Hp.Blk) (D : World → Prop) (e : Ending) (w' : World) : Prop :=
  e = .returned (.tuple #[.agg (vmA X.1.1), .agg #[.int .i64 X.1.2.1, .int .i64 X.1.2.2]]) ∧ Hp.Sh w0 w' ((g, (ints X.2).toArray, 25) :: H) D
theorem own_rdv {w0 w : World} {H : List Hp.Blk} {D : World → Prop} {g : Nat} {ws : List Int} {t : TypeId} (sh : Hp.Sh w0 w H D) (i : Nat) (hi : H[i]? = some (g, (ints ws).toArray, t)) : Hp.RdV w (some ⟨g, 0, none⟩) (ints ws) :=
  Hp.RdV.ofRow (sh.own _ (List.mem_of_getElem? hi)) (fun i v h => by simpa using h)
theorem get_ok {z : Int} {op a b n : Int} (h : InsP.get z = ((op, a, b, n), 0)) : 0 ≤ op ∧ op ≤ 13 ∧ 0 ≤ a ∧ a ≤ 7 ∧ 0 ≤ b ∧ b ≤ 7 ∧ 0 ≤ n ∧ n ≤ 65535 := by
  unfold InsP.get at h
  rcases InsP.right_cases (InsP.flds z).1 (InsP.flds z).2.1 (InsP.flds z).2.2.1 (InsP.flds z).2.2.2 with ⟨h1, -⟩ | ⟨h1, -⟩ | ⟨h1, -⟩ | ⟨h1, h2⟩
  · rw [if_neg (by rw [h1]; decide)] at h; have := congrArg (·.2) h; dsimp only at this; omega
  · rw [if_neg (by rw [h1]; decide)] at h; have := congrArg (·.2) h; dsimp only at this; omega
  · rw [if_neg (by rw [h1]; decide)] at h; have := congrArg (·.2) h; dsimp only at this; omega
  · rw [if_pos h1] at h
    have h3 := congrArg (·.1) h
    dsimp only at h3
    rw [h3] at h2
    exact h2
end PvP
end Go.Proofs.Ytfioeliejblboaa
