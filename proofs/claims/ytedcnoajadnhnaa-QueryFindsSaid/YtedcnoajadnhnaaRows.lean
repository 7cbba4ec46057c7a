/-
  No cell of these rows narrows 'for every input' (looked for: loops, veiled, ifaces, maps, wideKeys, modest, calm, conditions, laid).
  DERIVED. THE GIVEN ROWS OF THIS SEAT. 5 by the template 'for every input the law returns true; each argument reads behind the call as it read before'; 0 by the template 'total and deterministic' (their statements: YtedcnoajadnhnaaTotals.lean).
  GIVEN WITH THE SEED: the statements are not yours to turn. If you find one false, say at which input.
  Laid BY PROGRAM, IN A SANDBOX (cutbox-rows.mjs): the forced cells as the released guide's own fill.sh prints them over the translation b65aecc72f0ea71d… (all of the seat's roots in one cut). By AI agents, Wed Nov 11 2026. No macro, syntax, notation, axiom, sorry.
-/
import Derived.Test.YtedcnoajadnhnaaChecked
import GoSem.Claim
import GoSem.ClaimJoined
import GoSem.ClaimMapViews
import Derived.JoinedTies
import Derived.KernelRfl
namespace Go.Proofs.Ytedcnoajadnhnaa
/- THE CELL 'sum', in the pinned program and in every row, IS THE sha256 OF THE DUMP (.gsa) THAT YtedcnoajadnhnaaProg.lean LOADS. Nothing in Lean hashes anything: it is a label: what it is worth is what the hold of that sum in a sandbox is worth. -/
noncomputable def Try.pinned : Pinned := { name := "ytedcnoajadnhnaa", sum := "b65aecc72f0ea71d69221946deee62522f44cbe8038113b69baa62e2828b755b", checked := Try.checked }
namespace Rows
def none {H : Type} : Left H := { results := [], args := [] }

/-- 'blackboxlaw15.QueryFits': WHATEVER THE INPUT: true; the input reads as it did. -/
def queryFitsSpec : ChangeSpec := { name := "queryFits", fn := fun _ => fun
  | [d1, d2, d3] => { results := [.lit (.bool true)], args := [d1, d2, d3] }
  | _ => none }
def queryFitsRow : OpenClaim := { program := "ytedcnoajadnhnaa", sum := "b65aecc72f0ea71d69221946deee62522f44cbe8038113b69baa62e2828b755b", func := "blackbox/blackboxlaw15.QueryFits", spec := "queryFits", unfollowed := true, recurses := true, apart := false }
def QueryFitsSaid : Prop := queryFitsRow.holds Try.pinned (OpenSpec.ofChange queryFitsSpec)

/-- ITS FALSE NEIGHBOUR: 'it returns false'. Refute it at one input. -/
def queryFitsWrong : ChangeSpec := { name := "queryFits", fn := fun _ => fun
  | [d1, d2, d3] => { results := [.lit (.bool false)], args := [d1, d2, d3] }
  | _ => none }
def QueryFitsWrongFalsely : Prop := queryFitsRow.holds Try.pinned (OpenSpec.ofChange queryFitsWrong)

/-- 'blackboxlaw15.QueryMay': WHATEVER THE INPUT: true; the input reads as it did. -/
def queryMaySpec : ChangeSpec := { name := "queryMay", fn := fun _ => fun
  | [d1, d2, d3] => { results := [.lit (.bool true)], args := [d1, d2, d3] }
  | _ => none }
def queryMayRow : OpenClaim := { program := "ytedcnoajadnhnaa", sum := "b65aecc72f0ea71d69221946deee62522f44cbe8038113b69baa62e2828b755b", func := "blackbox/blackboxlaw15.QueryMay", spec := "queryMay", unfollowed := true, recurses := true, apart := false }
def QueryMaySaid : Prop := queryMayRow.holds Try.pinned (OpenSpec.ofChange queryMaySpec)

/-- ITS FALSE NEIGHBOUR: 'it returns false'. Refute it at one input. -/
def queryMayWrong : ChangeSpec := { name := "queryMay", fn := fun _ => fun
  | [d1, d2, d3] => { results := [.lit (.bool false)], args := [d1, d2, d3] }
  | _ => none }
def QueryMayWrongFalsely : Prop := queryMayRow.holds Try.pinned (OpenSpec.ofChange queryMayWrong)

/-- 'blackboxlaw15.QueryRows': WHATEVER THE INPUT: true; the input reads as it did. -/
def queryRowsSpec : ChangeSpec := { name := "queryRows", fn := fun _ => fun
  | [d1, d2, d3] => { results := [.lit (.bool true)], args := [d1, d2, d3] }
  | _ => none }
def queryRowsRow : OpenClaim := { program := "ytedcnoajadnhnaa", sum := "b65aecc72f0ea71d69221946deee62522f44cbe8038113b69baa62e2828b755b", func := "blackbox/blackboxlaw15.QueryRows", spec := "queryRows", unfollowed := true, recurses := true, apart := false }
def QueryRowsSaid : Prop := queryRowsRow.holds Try.pinned (OpenSpec.ofChange queryRowsSpec)

/-- ITS FALSE NEIGHBOUR: 'it returns false'. Refute it at one input. -/
def queryRowsWrong : ChangeSpec := { name := "queryRows", fn := fun _ => fun
  | [d1, d2, d3] => { results := [.lit (.bool false)], args := [d1, d2, d3] }
  | _ => none }
def QueryRowsWrongFalsely : Prop := queryRowsRow.holds Try.pinned (OpenSpec.ofChange queryRowsWrong)

/-- 'blackboxlaw15.QueryLess': WHATEVER THE INPUT: true; the input reads as it did. -/
def queryLessSpec : ChangeSpec := { name := "queryLess", fn := fun _ => fun
  | [d1, d2, d3, d4] => { results := [.lit (.bool true)], args := [d1, d2, d3, d4] }
  | _ => none }
def queryLessRow : OpenClaim := { program := "ytedcnoajadnhnaa", sum := "b65aecc72f0ea71d69221946deee62522f44cbe8038113b69baa62e2828b755b", func := "blackbox/blackboxlaw15.QueryLess", spec := "queryLess", unfollowed := true, recurses := true, apart := false }
def QueryLessSaid : Prop := queryLessRow.holds Try.pinned (OpenSpec.ofChange queryLessSpec)

/-- ITS FALSE NEIGHBOUR: 'it returns false'. Refute it at one input. -/
def queryLessWrong : ChangeSpec := { name := "queryLess", fn := fun _ => fun
  | [d1, d2, d3, d4] => { results := [.lit (.bool false)], args := [d1, d2, d3, d4] }
  | _ => none }
def QueryLessWrongFalsely : Prop := queryLessRow.holds Try.pinned (OpenSpec.ofChange queryLessWrong)

/-- 'blackboxlaw15.QueryFinds': WHATEVER THE INPUT: true; the input reads as it did. -/
def queryFindsSpec : ChangeSpec := { name := "queryFinds", fn := fun _ => fun
  | [d1, d2, d3] => { results := [.lit (.bool true)], args := [d1, d2, d3] }
  | _ => none }
def queryFindsRow : OpenClaim := { program := "ytedcnoajadnhnaa", sum := "b65aecc72f0ea71d69221946deee62522f44cbe8038113b69baa62e2828b755b", func := "blackbox/blackboxlaw15.QueryFinds", spec := "queryFinds", inPlace := ["internal/abi.NoEscape"], unfollowed := true, recurses := true, apart := false }
def QueryFindsSaid : Prop := queryFindsRow.holds Try.pinned (OpenSpec.ofChange queryFindsSpec)

/-- ITS FALSE NEIGHBOUR: 'it returns false'. Refute it at one input. -/
def queryFindsWrong : ChangeSpec := { name := "queryFinds", fn := fun _ => fun
  | [d1, d2, d3] => { results := [.lit (.bool false)], args := [d1, d2, d3] }
  | _ => none }
def QueryFindsWrongFalsely : Prop := queryFindsRow.holds Try.pinned (OpenSpec.ofChange queryFindsWrong)

/- THE SECOND FORM. 'bulk': how many values and letters a reading holds, each counted each time it is reached (what is shared counts as often as it is met; a slice's spare places count too). A statement '..UptoSaid' is the law's where the arguments, and the package variables that the reading takes, are together of bulk at most 1048576: NARROWER than '..Said'. Prove '..Said' where nothing that the law and all that it calls make is longer than what came in: it says more and counts as full. Else prove '..UptoSaid'. A law counts once. -/
mutual
def uptoBulk {H : Type} : DataW H → Nat
  | .lit (.string bytes) => bytes.length + 1
  | .lit _ => 1
  | .nil => 1
  | .ptr d => uptoBulk d + 1
  | .slice elems spare => uptoBulkAll elems + uptoBulkAll spare + 1
  | .agg parts => uptoBulkAll parts + 1
  | .iface _ d => uptoBulk d + 1
  | .map entries => uptoBulkEntries entries + 1
  | .held _ => 1
def uptoBulkAll {H : Type} : List (DataW H) → Nat
  | [] => 0
  | d :: r => uptoBulk d + uptoBulkAll r
def uptoBulkEntries {H : Type} : List (Lit × DataW H) → Nat
  | [] => 0
  | x :: r => uptoBulkEntry x + uptoBulkEntries r
def uptoBulkEntry {H : Type} : Lit × DataW H → Nat
  | (.string bytes, d) => bytes.length + uptoBulk d + 1
  | (_, d) => uptoBulk d + 1
 end
def uptoSmall : (H : Type) → List (DataW H) → Bool := fun _ ds => decide (uptoBulkAll ds ≤ 1048576)
def OpenSpec.upto (s : _root_.Go.ChangeSpec) : _root_.Go.OpenSpec := { _root_.Go.OpenSpec.ofChange s with cond := some uptoSmall }

/-- 'blackboxlaw15.QueryFits', WHERE WHAT IT READS IS OF BULK AT MOST 1048576: true; the input reads as it did. -/
def queryFitsUptoRow : OpenClaim := { program := "ytedcnoajadnhnaa", sum := "b65aecc72f0ea71d69221946deee62522f44cbe8038113b69baa62e2828b755b", func := "blackbox/blackboxlaw15.QueryFits", spec := "queryFits", unfollowed := true, recurses := true, apart := false, narrowed := true }
def QueryFitsUptoSaid : Prop := queryFitsUptoRow.holds Try.pinned (OpenSpec.upto queryFitsSpec)

/-- 'blackboxlaw15.QueryMay', WHERE WHAT IT READS IS OF BULK AT MOST 1048576: true; the input reads as it did. -/
def queryMayUptoRow : OpenClaim := { program := "ytedcnoajadnhnaa", sum := "b65aecc72f0ea71d69221946deee62522f44cbe8038113b69baa62e2828b755b", func := "blackbox/blackboxlaw15.QueryMay", spec := "queryMay", unfollowed := true, recurses := true, apart := false, narrowed := true }
def QueryMayUptoSaid : Prop := queryMayUptoRow.holds Try.pinned (OpenSpec.upto queryMaySpec)

/-- 'blackboxlaw15.QueryRows', WHERE WHAT IT READS IS OF BULK AT MOST 1048576: true; the input reads as it did. -/
def queryRowsUptoRow : OpenClaim := { program := "ytedcnoajadnhnaa", sum := "b65aecc72f0ea71d69221946deee62522f44cbe8038113b69baa62e2828b755b", func := "blackbox/blackboxlaw15.QueryRows", spec := "queryRows", unfollowed := true, recurses := true, apart := false, narrowed := true }
def QueryRowsUptoSaid : Prop := queryRowsUptoRow.holds Try.pinned (OpenSpec.upto queryRowsSpec)

/-- 'blackboxlaw15.QueryLess', WHERE WHAT IT READS IS OF BULK AT MOST 1048576: true; the input reads as it did. -/
def queryLessUptoRow : OpenClaim := { program := "ytedcnoajadnhnaa", sum := "b65aecc72f0ea71d69221946deee62522f44cbe8038113b69baa62e2828b755b", func := "blackbox/blackboxlaw15.QueryLess", spec := "queryLess", unfollowed := true, recurses := true, apart := false, narrowed := true }
def QueryLessUptoSaid : Prop := queryLessUptoRow.holds Try.pinned (OpenSpec.upto queryLessSpec)

/-- 'blackboxlaw15.QueryFinds', WHERE WHAT IT READS IS OF BULK AT MOST 1048576: true; the input reads as it did. -/
def queryFindsUptoRow : OpenClaim := { program := "ytedcnoajadnhnaa", sum := "b65aecc72f0ea71d69221946deee62522f44cbe8038113b69baa62e2828b755b", func := "blackbox/blackboxlaw15.QueryFinds", spec := "queryFinds", inPlace := ["internal/abi.NoEscape"], unfollowed := true, recurses := true, apart := false, narrowed := true }
def QueryFindsUptoSaid : Prop := queryFindsUptoRow.holds Try.pinned (OpenSpec.upto queryFindsSpec)

end Rows
end Go.Proofs.Ytedcnoajadnhnaa
