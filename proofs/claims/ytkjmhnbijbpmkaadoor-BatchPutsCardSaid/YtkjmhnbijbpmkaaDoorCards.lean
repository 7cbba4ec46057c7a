/-
  DERIVED. GIVEN WITH THE SEED: THE CARDS: each row of YtkjmhnbijbpmkaaDoorRows.lean that lists a variable, with what it lists TIED to the program's text (the seventh form; the later family's looks); each row that meets fmt, with fmt's text TOLD by the authors' own Lean function (tested against real Go, not proved from fmt's source: count such statements apart). THE CARD IS WHAT COUNTS. Prove the row's statement (the work); the ties are given (YtkjmhnbijbpmkaaDoorTie.lean); close each card by the builder's one call (the guide's Derived/Test/ToyasCard.lean, 'card_holds'). Laid BY PROGRAM, IN A SANDBOX (cutbox-door.mjs). By AI agents, Wed Nov 11 2026. No macro, syntax, notation, axiom, sorry.
-/
import Derived.Test.YtkjmhnbijbpmkaaDoorRows
import GoSem.ClaimSeven
namespace Go.Proofs.YtkjmhnbijbpmkaaDoor
namespace Rows

/-- THE TIED CARD OF 'blackboxlaw05.BatchPuts'. -/
def batchPutsCard : Claim7 := { stood := { row := batchPutsRow, standIns := [], harness := (true, "b9a725dcc3cc656f3667d6f430018f436103492425ae500dfb54f6456c126bef"), looks := false }, kinds := [], alts := [], laidByText := true, laidKinds := [.data], laidTests := true, laidLooks := .later }
def BatchPutsCardSaid : Prop := Claim7.holds Tryd.pinned (.plain (OpenSpec.ofChange batchPutsSpec)) batchPutsCard

/-- THE TIED CARD OF 'blackboxlaw05.BatchOnly'. -/
def batchOnlyCard : Claim7 := { stood := { row := batchOnlyRow, standIns := [], harness := (true, "b9a725dcc3cc656f3667d6f430018f436103492425ae500dfb54f6456c126bef"), looks := false }, kinds := [], alts := [], laidByText := true, laidKinds := [.data], laidTests := true, laidLooks := .later }
def BatchOnlyCardSaid : Prop := Claim7.holds Tryd.pinned (.plain (OpenSpec.ofChange batchOnlySpec)) batchOnlyCard

/-- THE SECOND FORM's CARD OF 'blackboxlaw05.BatchPuts'. -/
def batchPutsUptoCard : Claim7 := { stood := { row := batchPutsUptoRow, standIns := [], harness := (true, "b9a725dcc3cc656f3667d6f430018f436103492425ae500dfb54f6456c126bef"), looks := false }, kinds := [], alts := [], laidByText := true, laidKinds := [.data], laidTests := true, laidLooks := .later }
def BatchPutsUptoCardSaid : Prop := Claim7.holds Tryd.pinned (.plain (OpenSpec.upto batchPutsSpec)) batchPutsUptoCard

/-- THE SECOND FORM's CARD OF 'blackboxlaw05.BatchOnly'. -/
def batchOnlyUptoCard : Claim7 := { stood := { row := batchOnlyUptoRow, standIns := [], harness := (true, "b9a725dcc3cc656f3667d6f430018f436103492425ae500dfb54f6456c126bef"), looks := false }, kinds := [], alts := [], laidByText := true, laidKinds := [.data], laidTests := true, laidLooks := .later }
def BatchOnlyUptoCardSaid : Prop := Claim7.holds Tryd.pinned (.plain (OpenSpec.upto batchOnlySpec)) batchOnlyUptoCard
end Rows
end Go.Proofs.YtkjmhnbijbpmkaaDoor
