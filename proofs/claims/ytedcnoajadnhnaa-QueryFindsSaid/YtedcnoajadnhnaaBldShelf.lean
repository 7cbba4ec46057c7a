
/-
  The library's contracts on strings.Builder, laid at this seat.
-/
import Derived.Shelf.Lay
import Derived.Shelf.Strings.BuilderK
import Derived.Test.YtedcnoajadnhnaaRows
import Derived.Test.YtedcnoajadnhnaaBase
namespace Go.Proofs.Ytedcnoajadnhnaa
open Go.Shelf Go.RowKit
set_option linter.unusedVariables false

def Try.bldRen : Go.Shelf.Ren := ⟨fun | 166 => 45 | 169 => 47 | 240 => 53 | 276 => 56 | n => n, fun | 0 => 0 | 3 => 3 | 4 => 4 | 5 => 5 | 9 => 9 | 20 => 20 | 37 => 63 | 70 => 62 | 72 => 65 | 75 => 68 | 80 => 73 | 127 => 82 | 164 => 88 | n => n, fun n => n⟩
theorem Try.lays166 : Lays.n166 Try.prog Try.bldRen where
  mixed := by kernel_rfl
  f166 := Try.func45.trans (congrArg some (by kernel_rfl))
  f240 := Try.func53.trans (congrArg some (by kernel_rfl))
  f276 := Try.func56.trans (congrArg some (by kernel_rfl))
  t0 := Try.underlying0
  a0 := Try.isAgg0
  z0 := Try.sizeOf0
  v0 := Try.zeroValue0
  t3 := Try.underlying3
  a3 := Try.isAgg3
  z3 := Try.sizeOf3
  v3 := Try.zeroValue3
  t4 := Try.underlying4
  a4 := Try.isAgg4
  z4 := Try.sizeOf4
  v4 := Try.zeroValue4
  t9 := Try.underlying9
  a9 := Try.isAgg9
  z9 := Try.sizeOf9
  v9 := Try.zeroValue9
  t20 := Try.underlying20
  a20 := Try.isAgg20
  z20 := Try.sizeOf20
  v20 := Try.zeroValue20
  t37 := Try.underlying63
  a37 := Try.isAgg63
  z37 := Try.sizeOf63
  v37 := Try.zeroValue63
  t70 := Try.underlying62
  a70 := Try.isAgg62
  z70 := Try.sizeOf62
  v70 := Try.zeroValue62
  t72 := Try.underlying65
  a72 := Try.isAgg65
  z72 := Try.sizeOf65
  v72 := Try.zeroValue65
  t75 := Try.underlying68
  a75 := Try.isAgg68
  z75 := Try.sizeOf68
  v75 := Try.zeroValue68
  t164 := Try.underlying88
  a164 := Try.isAgg88
  z164 := Try.sizeOf88
  v164 := Try.zeroValue88
theorem Try.Builder_Extra_166 : Builder.Extra Try.prog Try.bldRen where
  sizeBuilder := by kernel_rfl
  liesBuilder := by kernel_rfl
  t5 := Try.underlying5
  a5 := Try.isAgg5
  z5 := Try.sizeOf5
  v5 := Try.zeroValue5
  infoByte := by kernel_rfl
  cellsByte := by kernel_rfl
  sizeByte := by kernel_rfl
  neB5 := by decide

shelf_lay Lays.n169 Nm 169 at Try as Try.lays169
theorem Try.Builder_Extra_169 : Builder.Extra Try.prog Try.lays169_ren where
  sizeBuilder := by kernel_rfl
  liesBuilder := by kernel_rfl
  t5 := Try.underlying5
  a5 := Try.isAgg5
  z5 := Try.sizeOf5
  v5 := Try.zeroValue5
  infoByte := by kernel_rfl
  cellsByte := by kernel_rfl
  sizeByte := by kernel_rfl
  neB5 := by decide

/-- A builder of block b, that holds l. -/
def Bld (B b : Nat) (l : List UInt8) (w : World) : Prop := Lib.IsBuilderF 65 5 B b (Lib.byteCells l) w ∧ B ≤ w.heap.size
def BldTo (B b : Nat) (l : List UInt8) (w w' : World) : Prop := Bld B b l w' ∧ Below B w w' ∧ Lib.OthersKept 5 (some b) w w'

theorem bld_str (B b : Nat) (l : List UInt8) (s : ByteArray) (w : World) (h : Bld B b l w) (hl : l.length ≤ 1000000) (hs : s.size ≤ 1000000) :
    Calls Try.prog 45 #[.pointer (some ⟨b, 0, none⟩), .string s] w fun e w' => e = .returned (.tuple #[.int .i64 s.size, .nilIface]) ∧ BldTo B b (l ++ s.data.toList) w w' :=
  (Any.Builder_WriteString_k Try.lays166 Try.Builder_Extra_166 B b (Lib.byteCells l) s w h.1 (by simp [Lib.byteCells]; omega) h.2).mono fun e w' ⟨he, h1, h2, h3⟩ => ⟨he, ⟨.inr (by rw [show Lib.byteCells (l ++ s.data.toList) = Lib.byteCells l ++ Lib.strCells s by simp [Lib.byteCells, Lib.strCells]]; exact h1), Nat.le_trans h.2 h2.size⟩, h2, h3⟩
theorem bld_string (B b : Nat) (l : List UInt8) (w : World) (h : Bld B b l w) :
    Calls Try.prog 47 #[.pointer (some ⟨b, 0, none⟩)] w fun e w' => e = .returned (.string ⟨l.toArray⟩) ∧ BldTo B b l w w' :=
  (Any.Builder_String_any_k Try.lays169 Try.Builder_Extra_169 B b l w h.1 h.2).mono fun e w' ⟨he, h1, h2, h3⟩ => ⟨he, ⟨h1, Nat.le_trans h.2 h2.size⟩, h2, h3⟩

end Go.Proofs.Ytedcnoajadnhnaa
