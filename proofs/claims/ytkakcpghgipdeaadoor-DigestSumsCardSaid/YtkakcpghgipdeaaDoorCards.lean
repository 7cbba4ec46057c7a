/-
  DERIVED. GIVEN WITH THE SEED: THE CARDS: each row of YtkakcpghgipdeaaDoorRows.lean that lists a variable, with what it lists TIED to the program's text (the seventh form; the later family's looks); each row that meets fmt, with fmt's text TOLD by the authors' own Lean function (tested against real Go, not proved from fmt's source: count such statements apart). THE CARD IS WHAT COUNTS. Prove the row's statement (the work); the ties are given (YtkakcpghgipdeaaDoorTie.lean); close each card by the builder's one call (the guide's Derived/Test/ToyasCard.lean, 'card_holds'). Laid BY PROGRAM, IN A SANDBOX (cutbox-door.mjs). By AI agents, Wed Nov 11 2026. No macro, syntax, notation, axiom, sorry.
-/
import Derived.Test.YtkakcpghgipdeaaDoorRows
import GoSem.ClaimSeven
namespace Go.Proofs.YtkakcpghgipdeaaDoor
namespace Rows

/-- THE TIED CARD OF 'blackboxlaw02.DigestReads'. -/
def digestReadsCard : Claim7 := { stood := { row := digestReadsRow, standIns := [], harness := (true, "929cebc17e67a9d0a17f53373d35c2c72d4f57bbc90c3db1686033755f2af965"), looks := false }, kinds := [], alts := [], laidByText := true, laidKinds := [.data], laidTests := true, laidLooks := .later }
def DigestReadsCardSaid : Prop := Claim7.holds Tryd.pinned (.plain (OpenSpec.ofChange digestReadsSpec)) digestReadsCard

/-- THE TIED CARD OF 'blackboxlaw02.DigestBack'. -/
def digestBackCard : Claim7 := { stood := { row := digestBackRow, standIns := [], harness := (true, "929cebc17e67a9d0a17f53373d35c2c72d4f57bbc90c3db1686033755f2af965"), looks := false }, kinds := [], alts := [], laidByText := true, laidKinds := [.data], laidTests := true, laidLooks := .later }
def DigestBackCardSaid : Prop := Claim7.holds Tryd.pinned (.plain (OpenSpec.ofChange digestBackSpec)) digestBackCard

/-- THE TIED CARD OF 'blackboxlaw02.DigestSums'. -/
def digestSumsCard : Claim7 := { stood := { row := digestSumsRow, standIns := [], harness := (true, "929cebc17e67a9d0a17f53373d35c2c72d4f57bbc90c3db1686033755f2af965"), looks := false }, kinds := [], alts := [], laidByText := true, laidKinds := [.data], laidTests := true, laidLooks := .later }
def DigestSumsCardSaid : Prop := Claim7.holds Tryd.pinned (.plain (OpenSpec.ofChange digestSumsSpec)) digestSumsCard

/-- THE SECOND FORM's CARD OF 'blackboxlaw02.DigestReads'. -/
def digestReadsUptoCard : Claim7 := { stood := { row := digestReadsUptoRow, standIns := [], harness := (true, "929cebc17e67a9d0a17f53373d35c2c72d4f57bbc90c3db1686033755f2af965"), looks := false }, kinds := [], alts := [], laidByText := true, laidKinds := [.data], laidTests := true, laidLooks := .later }
def DigestReadsUptoCardSaid : Prop := Claim7.holds Tryd.pinned (.plain (OpenSpec.upto digestReadsSpec)) digestReadsUptoCard

/-- THE SECOND FORM's CARD OF 'blackboxlaw02.DigestBack'. -/
def digestBackUptoCard : Claim7 := { stood := { row := digestBackUptoRow, standIns := [], harness := (true, "929cebc17e67a9d0a17f53373d35c2c72d4f57bbc90c3db1686033755f2af965"), looks := false }, kinds := [], alts := [], laidByText := true, laidKinds := [.data], laidTests := true, laidLooks := .later }
def DigestBackUptoCardSaid : Prop := Claim7.holds Tryd.pinned (.plain (OpenSpec.upto digestBackSpec)) digestBackUptoCard

/-- THE SECOND FORM's CARD OF 'blackboxlaw02.DigestSums'. -/
def digestSumsUptoCard : Claim7 := { stood := { row := digestSumsUptoRow, standIns := [], harness := (true, "929cebc17e67a9d0a17f53373d35c2c72d4f57bbc90c3db1686033755f2af965"), looks := false }, kinds := [], alts := [], laidByText := true, laidKinds := [.data], laidTests := true, laidLooks := .later }
def DigestSumsUptoCardSaid : Prop := Claim7.holds Tryd.pinned (.plain (OpenSpec.upto digestSumsSpec)) digestSumsUptoCard
end Rows
end Go.Proofs.YtkakcpghgipdeaaDoor
