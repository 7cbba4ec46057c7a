
/-
  The walk of answers.
-/
import Derived.Test.YtfioeliejblboaaReg7
namespace Go.Proofs.Ytfioeliejblboaa
open Go.RowKit
set_option linter.unusedVariables false
set_option linter.unusedSimpArgs false

theorem rot3 {α : Type} (a b c : α) (l : List α) : (a :: b :: c :: l).Perm (b :: c :: a :: l) := (List.Perm.swap _ _ _).trans ((List.Perm.swap _ _ _).cons _)
theorem rot3' {α : Type} (a b c : α) (l : List α) : (b :: c :: a :: l).Perm (a :: b :: c :: l) := (rot3 a b c l).symm
theorem swap2 {α : Type} (a b : α) (l : List α) : (a :: b :: l).Perm (b :: a :: l) := List.Perm.swap _ _ _
theorem sameT (s r : Option Addr) (zs : List Int) (c d : Nat) (w : World) (hs : Hp.RdV w s (ints zs)) (hr : Hp.RdV w r (ints zs)) (hn : zs.length ≤ 9223372036854775807) :
    Calls Try.prog 13 #[.slice s zs.length c, .slice r zs.length d] w fun e w' => e = .returned (.bool true) ∧ Below w.heap.size w w' := by
  have := same19 s r zs zs zs.length zs.length c d w rfl rfl hs hr hn
  rw [show (zs == zs) = true by simp] at this
  exact this
namespace RegP
def stepW (n : Nat) (ws : List Int) (kd at' nn b z : Int) (l : List Int) : List Int :=
  if kd = 1 then setW n ws b z at' (IntKind.u32.wrap nn) else if kd = 3 then layW n ws b z at' l else if kd = 4 then clearW n ws b z else ws
def RowS (vs : List Int) (w0 : World) (H : List Hp.Blk) (D : World → Prop) (e : Ending) (w' : World) : Prop := ∃ s c, e = .returned (.slice s vs.length c) ∧ Hp.Sh w0 w' H (fun W => Hp.RdV W s (ints vs) ∧ D W)
theorem RowP.sh {vs : List Int} {w0 w w' : World} {e : Ending} {H : List Hp.Blk} {D : World → Prop} (sh : Hp.Sh w0 w H D) (h : RowP vs w e w') : RowS vs w0 H D e w' := by
  obtain ⟨s, c, he, hn, -, hr, hb⟩ := h
  exact ⟨s, c, he, Hp.gain sh hb hn hr⟩
def RowCS (vs : List Int) (cd : Int) (w0 : World) (H : List Hp.Blk) (D : World → Prop) (e : Ending) (w' : World) : Prop := ∃ s c, e = .returned (.tuple #[.slice s vs.length c, .int .i64 cd]) ∧ Hp.Sh w0 w' H (fun W => Hp.RdV W s (ints vs) ∧ D W)
theorem RowCP.sh {vs : List Int} {cd : Int} {w0 w w' : World} {e : Ending} {H : List Hp.Blk} {D : World → Prop} (sh : Hp.Sh w0 w H D) (h : RowCP vs cd w e w') : RowCS vs cd w0 H D e w' := by
  obtain ⟨s, c, he, hn, -, hr, hb⟩ := h
  exact ⟨s, c, he, Hp.gain sh hb hn hr⟩
/-- A row of an own block, as data of this world. -/
theorem own_rdv {w0 w : World} {H : List Hp.Blk} {D : World → Prop} {g : Nat} {ws : List Int} {t : TypeId} (sh : Hp.Sh w0 w H D) (i : Nat) (hi : H[i]? = some (g, (ints ws).toArray, t)) : Hp.RdV w (some ⟨g, 0, none⟩) (ints ws) :=
  Hp.RdV.ofRow (sh.own _ (List.mem_of_getElem? hi)) (fun i v h => by simpa using h)
def AnsP (g h : Nat) (ws' : List Int) (w0 : World) (H : List Hp.Blk) (D : World → Prop) (e : Ending) (w' : World) : Prop := e = .returned (.bool true) ∧ Hp.Sh w0 w' ((g, (ints ws').toArray, 25) :: (h, (ints ws').toArray, 25) :: H) D
end RegP

end Go.Proofs.Ytfioeliejblboaa
