/-
  DERIVED. GIVEN WITH THE SEED: THE CARDS: each row of YtfcffglgkblidaaDoorRows.lean that lists a variable, with what it lists TIED to the program's text (the seventh form; the later family's looks); each row that meets fmt, with fmt's text TOLD by the authors' own Lean function (tested against real Go, not proved from fmt's source: count such statements apart). THE CARD IS WHAT COUNTS. Prove the row's statement (the work); the ties are given (YtfcffglgkblidaaDoorTie.lean); close each card by the builder's one call (the guide's Derived/Test/ToyasCard.lean, 'card_holds'). Laid BY PROGRAM, IN A SANDBOX (cutbox-door.mjs). By AI agents, Wed Nov 11 2026. No macro, syntax, notation, axiom, sorry.
-/
import Derived.Test.YtfcffglgkblidaaDoorRows
import GoSem.ClaimSeven
namespace Go.Proofs.YtfcffglgkblidaaDoor
namespace Rows

/-- THE TIED CARD OF 'blackboxlaw09.ChainLinks'. -/
def chainLinksCard : Claim7 := { stood := { row := chainLinksRow, standIns := [], harness := (true, "89acccc29d5fa4539e602c808b7bd270942f190a0aa8eaea31ada76ac1226633"), looks := false }, kinds := [], alts := [], laidByText := true, laidKinds := [.data], laidTests := true, laidLooks := .later }
def ChainLinksCardSaid : Prop := Claim7.holds Tryd.pinned (.plain (OpenSpec.ofChange chainLinksSpec)) chainLinksCard

/-- THE TIED CARD OF 'blackboxlaw09.ChainChecks'. -/
def chainChecksCard : Claim7 := { stood := { row := chainChecksRow, standIns := [], harness := (true, "89acccc29d5fa4539e602c808b7bd270942f190a0aa8eaea31ada76ac1226633"), looks := false }, kinds := [], alts := [], laidByText := true, laidKinds := [.data], laidTests := true, laidLooks := .later }
def ChainChecksCardSaid : Prop := Claim7.holds Tryd.pinned (.plain (OpenSpec.ofChange chainChecksSpec)) chainChecksCard

/-- THE TIED CARD OF 'blackboxlaw09.ChainClashes'. -/
def chainClashesCard : Claim7 := { stood := { row := chainClashesRow, standIns := [], harness := (true, "89acccc29d5fa4539e602c808b7bd270942f190a0aa8eaea31ada76ac1226633"), looks := false }, kinds := [], alts := [], laidByText := true, laidKinds := [.data], laidTests := true, laidLooks := .later }
def ChainClashesCardSaid : Prop := Claim7.holds Tryd.pinned (.plain (OpenSpec.ofChange chainClashesSpec)) chainClashesCard

/-- THE TIED CARD OF 'blackboxlaw09.ChainGoes'. -/
def chainGoesCard : Claim7 := { stood := { row := chainGoesRow, standIns := [], harness := (true, "89acccc29d5fa4539e602c808b7bd270942f190a0aa8eaea31ada76ac1226633"), looks := false }, kinds := [], alts := [], laidByText := true, laidKinds := [.data], laidTests := true, laidLooks := .later }
def ChainGoesCardSaid : Prop := Claim7.holds Tryd.pinned (.plain (OpenSpec.ofChange chainGoesSpec)) chainGoesCard

/-- THE TIED CARD OF 'blackboxlaw09.ChainTells'. -/
def chainTellsCard : Claim7 := { stood := { row := chainTellsRow, standIns := [], harness := (true, "89acccc29d5fa4539e602c808b7bd270942f190a0aa8eaea31ada76ac1226633"), looks := false }, kinds := [], alts := [], laidByText := true, laidKinds := [.data], laidTests := true, laidLooks := .later }
def ChainTellsCardSaid : Prop := Claim7.holds Tryd.pinned (.plain (OpenSpec.ofChange chainTellsSpec)) chainTellsCard

/-- THE TIED CARD OF 'blackboxlaw09.ChainSpoilt'. -/
def chainSpoiltCard : Claim7 := { stood := { row := chainSpoiltRow, standIns := [], harness := (true, "89acccc29d5fa4539e602c808b7bd270942f190a0aa8eaea31ada76ac1226633"), looks := false }, kinds := [], alts := [], laidByText := true, laidKinds := [.data], laidTests := true, laidLooks := .later }
def ChainSpoiltCardSaid : Prop := Claim7.holds Tryd.pinned (.plain (OpenSpec.ofChange chainSpoiltSpec)) chainSpoiltCard

/-- THE SECOND FORM's CARD OF 'blackboxlaw09.ChainLinks'. -/
def chainLinksUptoCard : Claim7 := { stood := { row := chainLinksUptoRow, standIns := [], harness := (true, "89acccc29d5fa4539e602c808b7bd270942f190a0aa8eaea31ada76ac1226633"), looks := false }, kinds := [], alts := [], laidByText := true, laidKinds := [.data], laidTests := true, laidLooks := .later }
def ChainLinksUptoCardSaid : Prop := Claim7.holds Tryd.pinned (.plain (OpenSpec.upto chainLinksSpec)) chainLinksUptoCard

/-- THE SECOND FORM's CARD OF 'blackboxlaw09.ChainChecks'. -/
def chainChecksUptoCard : Claim7 := { stood := { row := chainChecksUptoRow, standIns := [], harness := (true, "89acccc29d5fa4539e602c808b7bd270942f190a0aa8eaea31ada76ac1226633"), looks := false }, kinds := [], alts := [], laidByText := true, laidKinds := [.data], laidTests := true, laidLooks := .later }
def ChainChecksUptoCardSaid : Prop := Claim7.holds Tryd.pinned (.plain (OpenSpec.upto chainChecksSpec)) chainChecksUptoCard

/-- THE SECOND FORM's CARD OF 'blackboxlaw09.ChainClashes'. -/
def chainClashesUptoCard : Claim7 := { stood := { row := chainClashesUptoRow, standIns := [], harness := (true, "89acccc29d5fa4539e602c808b7bd270942f190a0aa8eaea31ada76ac1226633"), looks := false }, kinds := [], alts := [], laidByText := true, laidKinds := [.data], laidTests := true, laidLooks := .later }
def ChainClashesUptoCardSaid : Prop := Claim7.holds Tryd.pinned (.plain (OpenSpec.upto chainClashesSpec)) chainClashesUptoCard

/-- THE SECOND FORM's CARD OF 'blackboxlaw09.ChainGoes'. -/
def chainGoesUptoCard : Claim7 := { stood := { row := chainGoesUptoRow, standIns := [], harness := (true, "89acccc29d5fa4539e602c808b7bd270942f190a0aa8eaea31ada76ac1226633"), looks := false }, kinds := [], alts := [], laidByText := true, laidKinds := [.data], laidTests := true, laidLooks := .later }
def ChainGoesUptoCardSaid : Prop := Claim7.holds Tryd.pinned (.plain (OpenSpec.upto chainGoesSpec)) chainGoesUptoCard

/-- THE SECOND FORM's CARD OF 'blackboxlaw09.ChainTells'. -/
def chainTellsUptoCard : Claim7 := { stood := { row := chainTellsUptoRow, standIns := [], harness := (true, "89acccc29d5fa4539e602c808b7bd270942f190a0aa8eaea31ada76ac1226633"), looks := false }, kinds := [], alts := [], laidByText := true, laidKinds := [.data], laidTests := true, laidLooks := .later }
def ChainTellsUptoCardSaid : Prop := Claim7.holds Tryd.pinned (.plain (OpenSpec.upto chainTellsSpec)) chainTellsUptoCard

/-- THE SECOND FORM's CARD OF 'blackboxlaw09.ChainSpoilt'. -/
def chainSpoiltUptoCard : Claim7 := { stood := { row := chainSpoiltUptoRow, standIns := [], harness := (true, "89acccc29d5fa4539e602c808b7bd270942f190a0aa8eaea31ada76ac1226633"), looks := false }, kinds := [], alts := [], laidByText := true, laidKinds := [.data], laidTests := true, laidLooks := .later }
def ChainSpoiltUptoCardSaid : Prop := Claim7.holds Tryd.pinned (.plain (OpenSpec.upto chainSpoiltSpec)) chainSpoiltUptoCard
end Rows
end Go.Proofs.YtfcffglgkblidaaDoor
