/-
  No cell of these rows narrows 'for every input' (looked for: loops, veiled, ifaces, maps, wideKeys, modest, calm, conditions, laid).
  DERIVED. THE GIVEN ROWS OF THIS SEAT. 6 by the template 'for every input the law returns true; each argument reads behind the call as it read before'; 0 by the template 'total and deterministic' (their statements: YtmhlichbblkccaaTotals.lean).
  GIVEN WITH THE SEED: the statements are not yours to turn. If you find one false, say at which input.
  Laid BY PROGRAM, IN A SANDBOX (cutbox-rows.mjs): the forced cells as the released guide's own fill.sh prints them over the translation df4551a721e3e981… (all of the seat's roots in one cut). By AI agents, Wed Nov 11 2026. No macro, syntax, notation, axiom, sorry.
-/
import Derived.Test.YtmhlichbblkccaaChecked
import GoSem.Claim
import GoSem.ClaimJoined
import GoSem.ClaimMapViews
import Derived.JoinedTies
import Derived.KernelRfl
namespace Go.Proofs.Ytmhlichbblkccaa
/- THE CELL 'sum', in the pinned program and in every row, IS THE sha256 OF THE DUMP (.gsa) THAT YtmhlichbblkccaaProg.lean LOADS. Nothing in Lean hashes anything: it is a label: what it is worth is what the hold of that sum in a sandbox is worth. -/
noncomputable def Try.pinned : Pinned := { name := "ytmhlichbblkccaa", sum := "df4551a721e3e981d092072b9a207f022e73ec09c79dc3e64cc411330e2a439d", checked := Try.checked }
namespace Rows
def none {H : Type} : Left H := { results := [], args := [] }

/-- 'blackboxlaw04.EventPuts': WHATEVER THE INPUT: true; the input reads as it did. -/
def eventPutsSpec : ChangeSpec := { name := "eventPuts", fn := fun _ => fun
  | [d1, d2] => { results := [.lit (.bool true)], args := [d1, d2] }
  | _ => none }
def eventPutsRow : OpenClaim := { program := "ytmhlichbblkccaa", sum := "df4551a721e3e981d092072b9a207f022e73ec09c79dc3e64cc411330e2a439d", func := "blackbox/blackboxlaw04.EventPuts", spec := "eventPuts", unfollowed := true, recurses := true, apart := false }
def EventPutsSaid : Prop := eventPutsRow.holds Try.pinned (OpenSpec.ofChange eventPutsSpec)

/-- ITS FALSE NEIGHBOUR: 'it returns false'. Refute it at one input. -/
def eventPutsWrong : ChangeSpec := { name := "eventPuts", fn := fun _ => fun
  | [d1, d2] => { results := [.lit (.bool false)], args := [d1, d2] }
  | _ => none }
def EventPutsWrongFalsely : Prop := eventPutsRow.holds Try.pinned (OpenSpec.ofChange eventPutsWrong)

/-- 'blackboxlaw04.EventGets': WHATEVER THE INPUT: true; the input reads as it did. -/
def eventGetsSpec : ChangeSpec := { name := "eventGets", fn := fun _ => fun
  | [d] => { results := [.lit (.bool true)], args := [d] }
  | _ => none }
def eventGetsRow : OpenClaim := { program := "ytmhlichbblkccaa", sum := "df4551a721e3e981d092072b9a207f022e73ec09c79dc3e64cc411330e2a439d", func := "blackbox/blackboxlaw04.EventGets", spec := "eventGets", unfollowed := true, recurses := true, apart := false }
def EventGetsSaid : Prop := eventGetsRow.holds Try.pinned (OpenSpec.ofChange eventGetsSpec)

/-- ITS FALSE NEIGHBOUR: 'it returns false'. Refute it at one input. -/
def eventGetsWrong : ChangeSpec := { name := "eventGets", fn := fun _ => fun
  | [d] => { results := [.lit (.bool false)], args := [d] }
  | _ => none }
def EventGetsWrongFalsely : Prop := eventGetsRow.holds Try.pinned (OpenSpec.ofChange eventGetsWrong)

/-- 'blackboxlaw04.EventRow': WHATEVER THE INPUT: true; the input reads as it did. -/
def eventRowSpec : ChangeSpec := { name := "eventRow", fn := fun _ => fun
  | [d] => { results := [.lit (.bool true)], args := [d] }
  | _ => none }
def eventRowRow : OpenClaim := { program := "ytmhlichbblkccaa", sum := "df4551a721e3e981d092072b9a207f022e73ec09c79dc3e64cc411330e2a439d", func := "blackbox/blackboxlaw04.EventRow", spec := "eventRow", unfollowed := true, recurses := true, apart := false }
def EventRowSaid : Prop := eventRowRow.holds Try.pinned (OpenSpec.ofChange eventRowSpec)

/-- ITS FALSE NEIGHBOUR: 'it returns false'. Refute it at one input. -/
def eventRowWrong : ChangeSpec := { name := "eventRow", fn := fun _ => fun
  | [d] => { results := [.lit (.bool false)], args := [d] }
  | _ => none }
def EventRowWrongFalsely : Prop := eventRowRow.holds Try.pinned (OpenSpec.ofChange eventRowWrong)

/-- 'blackboxlaw04.EventBack': WHATEVER THE INPUT: true; the input reads as it did. -/
def eventBackSpec : ChangeSpec := { name := "eventBack", fn := fun _ => fun
  | [d1, d2] => { results := [.lit (.bool true)], args := [d1, d2] }
  | _ => none }
def eventBackRow : OpenClaim := { program := "ytmhlichbblkccaa", sum := "df4551a721e3e981d092072b9a207f022e73ec09c79dc3e64cc411330e2a439d", func := "blackbox/blackboxlaw04.EventBack", spec := "eventBack", unfollowed := true, recurses := true, apart := false }
def EventBackSaid : Prop := eventBackRow.holds Try.pinned (OpenSpec.ofChange eventBackSpec)

/-- ITS FALSE NEIGHBOUR: 'it returns false'. Refute it at one input. -/
def eventBackWrong : ChangeSpec := { name := "eventBack", fn := fun _ => fun
  | [d1, d2] => { results := [.lit (.bool false)], args := [d1, d2] }
  | _ => none }
def EventBackWrongFalsely : Prop := eventBackRow.holds Try.pinned (OpenSpec.ofChange eventBackWrong)

/-- 'blackboxlaw04.EventOnly': WHATEVER THE INPUT: true; the input reads as it did. -/
def eventOnlySpec : ChangeSpec := { name := "eventOnly", fn := fun _ => fun
  | [d] => { results := [.lit (.bool true)], args := [d] }
  | _ => none }
def eventOnlyRow : OpenClaim := { program := "ytmhlichbblkccaa", sum := "df4551a721e3e981d092072b9a207f022e73ec09c79dc3e64cc411330e2a439d", func := "blackbox/blackboxlaw04.EventOnly", spec := "eventOnly", unfollowed := true, recurses := true, apart := false }
def EventOnlySaid : Prop := eventOnlyRow.holds Try.pinned (OpenSpec.ofChange eventOnlySpec)

/-- ITS FALSE NEIGHBOUR: 'it returns false'. Refute it at one input. -/
def eventOnlyWrong : ChangeSpec := { name := "eventOnly", fn := fun _ => fun
  | [d] => { results := [.lit (.bool false)], args := [d] }
  | _ => none }
def EventOnlyWrongFalsely : Prop := eventOnlyRow.holds Try.pinned (OpenSpec.ofChange eventOnlyWrong)

/-- 'blackboxlaw04.EventRuns': WHATEVER THE INPUT: true; the input reads as it did. -/
def eventRunsSpec : ChangeSpec := { name := "eventRuns", fn := fun _ => fun
  | [d1, d2] => { results := [.lit (.bool true)], args := [d1, d2] }
  | _ => none }
def eventRunsRow : OpenClaim := { program := "ytmhlichbblkccaa", sum := "df4551a721e3e981d092072b9a207f022e73ec09c79dc3e64cc411330e2a439d", func := "blackbox/blackboxlaw04.EventRuns", spec := "eventRuns", unfollowed := true, recurses := true, apart := false }
def EventRunsSaid : Prop := eventRunsRow.holds Try.pinned (OpenSpec.ofChange eventRunsSpec)

/-- ITS FALSE NEIGHBOUR: 'it returns false'. Refute it at one input. -/
def eventRunsWrong : ChangeSpec := { name := "eventRuns", fn := fun _ => fun
  | [d1, d2] => { results := [.lit (.bool false)], args := [d1, d2] }
  | _ => none }
def EventRunsWrongFalsely : Prop := eventRunsRow.holds Try.pinned (OpenSpec.ofChange eventRunsWrong)

/- THE SECOND FORM. 'bulk': how many values and letters a reading holds, each counted each time it is reached (what is shared counts as often as it is met; a slice's spare places count too). A statement '..UptoSaid' is the law's where the arguments, and the package variables that the reading takes, are together of bulk at most 1048576: NARROWER than '..Said'. Prove '..Said' where nothing that the law and all that it calls make is longer than what came in: it says more and counts as full. Else prove '..UptoSaid'. A law counts once. -/
mutual
def uptoBulk {H : Type} : DataW H → Nat
  | .lit (.string bytes) => bytes.length + 1
  | .lit _ => 1
  | .nil => 1
  | .ptr d => uptoBulk d + 1
  | .slice elems spare => uptoBulkAll elems + uptoBulkAll spare + 1
  | .agg parts => uptoBulkAll parts + 1
  | .iface _ d => uptoBulk d + 1
  | .map entries => uptoBulkEntries entries + 1
  | .held _ => 1
def uptoBulkAll {H : Type} : List (DataW H) → Nat
  | [] => 0
  | d :: r => uptoBulk d + uptoBulkAll r
def uptoBulkEntries {H : Type} : List (Lit × DataW H) → Nat
  | [] => 0
  | x :: r => uptoBulkEntry x + uptoBulkEntries r
def uptoBulkEntry {H : Type} : Lit × DataW H → Nat
  | (.string bytes, d) => bytes.length + uptoBulk d + 1
  | (_, d) => uptoBulk d + 1
 end
def uptoSmall : (H : Type) → List (DataW H) → Bool := fun _ ds => decide (uptoBulkAll ds ≤ 1048576)
def OpenSpec.upto (s : _root_.Go.ChangeSpec) : _root_.Go.OpenSpec := { _root_.Go.OpenSpec.ofChange s with cond := some uptoSmall }

/-- 'blackboxlaw04.EventPuts', WHERE WHAT IT READS IS OF BULK AT MOST 1048576: true; the input reads as it did. -/
def eventPutsUptoRow : OpenClaim := { program := "ytmhlichbblkccaa", sum := "df4551a721e3e981d092072b9a207f022e73ec09c79dc3e64cc411330e2a439d", func := "blackbox/blackboxlaw04.EventPuts", spec := "eventPuts", unfollowed := true, recurses := true, apart := false, narrowed := true }
def EventPutsUptoSaid : Prop := eventPutsUptoRow.holds Try.pinned (OpenSpec.upto eventPutsSpec)

/-- 'blackboxlaw04.EventGets', WHERE WHAT IT READS IS OF BULK AT MOST 1048576: true; the input reads as it did. -/
def eventGetsUptoRow : OpenClaim := { program := "ytmhlichbblkccaa", sum := "df4551a721e3e981d092072b9a207f022e73ec09c79dc3e64cc411330e2a439d", func := "blackbox/blackboxlaw04.EventGets", spec := "eventGets", unfollowed := true, recurses := true, apart := false, narrowed := true }
def EventGetsUptoSaid : Prop := eventGetsUptoRow.holds Try.pinned (OpenSpec.upto eventGetsSpec)

/-- 'blackboxlaw04.EventRow', WHERE WHAT IT READS IS OF BULK AT MOST 1048576: true; the input reads as it did. -/
def eventRowUptoRow : OpenClaim := { program := "ytmhlichbblkccaa", sum := "df4551a721e3e981d092072b9a207f022e73ec09c79dc3e64cc411330e2a439d", func := "blackbox/blackboxlaw04.EventRow", spec := "eventRow", unfollowed := true, recurses := true, apart := false, narrowed := true }
def EventRowUptoSaid : Prop := eventRowUptoRow.holds Try.pinned (OpenSpec.upto eventRowSpec)

/-- 'blackboxlaw04.EventBack', WHERE WHAT IT READS IS OF BULK AT MOST 1048576: true; the input reads as it did. -/
def eventBackUptoRow : OpenClaim := { program := "ytmhlichbblkccaa", sum := "df4551a721e3e981d092072b9a207f022e73ec09c79dc3e64cc411330e2a439d", func := "blackbox/blackboxlaw04.EventBack", spec := "eventBack", unfollowed := true, recurses := true, apart := false, narrowed := true }
def EventBackUptoSaid : Prop := eventBackUptoRow.holds Try.pinned (OpenSpec.upto eventBackSpec)

/-- 'blackboxlaw04.EventOnly', WHERE WHAT IT READS IS OF BULK AT MOST 1048576: true; the input reads as it did. -/
def eventOnlyUptoRow : OpenClaim := { program := "ytmhlichbblkccaa", sum := "df4551a721e3e981d092072b9a207f022e73ec09c79dc3e64cc411330e2a439d", func := "blackbox/blackboxlaw04.EventOnly", spec := "eventOnly", unfollowed := true, recurses := true, apart := false, narrowed := true }
def EventOnlyUptoSaid : Prop := eventOnlyUptoRow.holds Try.pinned (OpenSpec.upto eventOnlySpec)

/-- 'blackboxlaw04.EventRuns', WHERE WHAT IT READS IS OF BULK AT MOST 1048576: true; the input reads as it did. -/
def eventRunsUptoRow : OpenClaim := { program := "ytmhlichbblkccaa", sum := "df4551a721e3e981d092072b9a207f022e73ec09c79dc3e64cc411330e2a439d", func := "blackbox/blackboxlaw04.EventRuns", spec := "eventRuns", unfollowed := true, recurses := true, apart := false, narrowed := true }
def EventRunsUptoSaid : Prop := eventRunsUptoRow.holds Try.pinned (OpenSpec.upto eventRunsSpec)

end Rows
end Go.Proofs.Ytmhlichbblkccaa
