/-
  No cell of these rows narrows 'for every input' (looked for: loops, veiled, ifaces, maps, wideKeys, modest, calm, conditions, laid).
  DERIVED. THE GIVEN ROWS OF THIS SEAT. 5 by the template 'for every input the law returns true; each argument reads behind the call as it read before'; 0 by the template 'total and deterministic' (their statements: YtmdagajbelfnoaaTotals.lean).
  GIVEN WITH THE SEED: the statements are not yours to turn. If you find one false, say at which input.
  Laid BY PROGRAM, IN A SANDBOX (cutbox-rows.mjs): the forced cells as the released guide's own fill.sh prints them over the translation dd9893f174fff5d9… (all of the seat's roots in one cut). By AI agents, Wed Nov 11 2026. No macro, syntax, notation, axiom, sorry.
-/
import Derived.Test.YtmdagajbelfnoaaChecked
import GoSem.Claim
import GoSem.ClaimJoined
import GoSem.ClaimMapViews
import Derived.JoinedTies
import Derived.KernelRfl
namespace Go.Proofs.Ytmdagajbelfnoaa
/- THE CELL 'sum', in the pinned program and in every row, IS THE sha256 OF THE DUMP (.gsa) THAT YtmdagajbelfnoaaProg.lean LOADS. Nothing in Lean hashes anything: it is a label: what it is worth is what the hold of that sum in a sandbox is worth. -/
noncomputable def Try.pinned : Pinned := { name := "ytmdagajbelfnoaa", sum := "dd9893f174fff5d9a24f4699a8036ad2213b6d4350b5fd402c0d003e22bdf3d8", checked := Try.checked }
namespace Rows
def none {H : Type} : Left H := { results := [], args := [] }

/-- 'blackboxlaw24.GraphSets': WHATEVER THE INPUT: true; the input reads as it did. -/
def graphSetsSpec : ChangeSpec := { name := "graphSets", fn := fun _ => fun
  | [d1, d2] => { results := [.lit (.bool true)], args := [d1, d2] }
  | _ => none }
def graphSetsRow : OpenClaim := { program := "ytmdagajbelfnoaa", sum := "dd9893f174fff5d9a24f4699a8036ad2213b6d4350b5fd402c0d003e22bdf3d8", func := "blackbox/blackboxlaw24.GraphSets", spec := "graphSets", unfollowed := true, recurses := true, apart := false }
def GraphSetsSaid : Prop := graphSetsRow.holds Try.pinned (OpenSpec.ofChange graphSetsSpec)

/-- ITS FALSE NEIGHBOUR: 'it returns false'. Refute it at one input. -/
def graphSetsWrong : ChangeSpec := { name := "graphSets", fn := fun _ => fun
  | [d1, d2] => { results := [.lit (.bool false)], args := [d1, d2] }
  | _ => none }
def GraphSetsWrongFalsely : Prop := graphSetsRow.holds Try.pinned (OpenSpec.ofChange graphSetsWrong)

/-- 'blackboxlaw24.GraphWays': WHATEVER THE INPUT: true; the input reads as it did. -/
def graphWaysSpec : ChangeSpec := { name := "graphWays", fn := fun _ => fun
  | [d1, d2, d3, d4] => { results := [.lit (.bool true)], args := [d1, d2, d3, d4] }
  | _ => none }
def graphWaysRow : OpenClaim := { program := "ytmdagajbelfnoaa", sum := "dd9893f174fff5d9a24f4699a8036ad2213b6d4350b5fd402c0d003e22bdf3d8", func := "blackbox/blackboxlaw24.GraphWays", spec := "graphWays", unfollowed := true, recurses := true, apart := false }
def GraphWaysSaid : Prop := graphWaysRow.holds Try.pinned (OpenSpec.ofChange graphWaysSpec)

/-- ITS FALSE NEIGHBOUR: 'it returns false'. Refute it at one input. -/
def graphWaysWrong : ChangeSpec := { name := "graphWays", fn := fun _ => fun
  | [d1, d2, d3, d4] => { results := [.lit (.bool false)], args := [d1, d2, d3, d4] }
  | _ => none }
def GraphWaysWrongFalsely : Prop := graphWaysRow.holds Try.pinned (OpenSpec.ofChange graphWaysWrong)

/-- 'blackboxlaw24.GraphTurns': WHATEVER THE INPUT: true; the input reads as it did. -/
def graphTurnsSpec : ChangeSpec := { name := "graphTurns", fn := fun _ => fun
  | [d1, d2, d3] => { results := [.lit (.bool true)], args := [d1, d2, d3] }
  | _ => none }
def graphTurnsRow : OpenClaim := { program := "ytmdagajbelfnoaa", sum := "dd9893f174fff5d9a24f4699a8036ad2213b6d4350b5fd402c0d003e22bdf3d8", func := "blackbox/blackboxlaw24.GraphTurns", spec := "graphTurns", unfollowed := true, recurses := true, apart := false }
def GraphTurnsSaid : Prop := graphTurnsRow.holds Try.pinned (OpenSpec.ofChange graphTurnsSpec)

/-- ITS FALSE NEIGHBOUR: 'it returns false'. Refute it at one input. -/
def graphTurnsWrong : ChangeSpec := { name := "graphTurns", fn := fun _ => fun
  | [d1, d2, d3] => { results := [.lit (.bool false)], args := [d1, d2, d3] }
  | _ => none }
def GraphTurnsWrongFalsely : Prop := graphTurnsRow.holds Try.pinned (OpenSpec.ofChange graphTurnsWrong)

/-- 'blackboxlaw24.GraphLeast': WHATEVER THE INPUT: true; the input reads as it did. -/
def graphLeastSpec : ChangeSpec := { name := "graphLeast", fn := fun _ => fun
  | [d1, d2, d3] => { results := [.lit (.bool true)], args := [d1, d2, d3] }
  | _ => none }
def graphLeastRow : OpenClaim := { program := "ytmdagajbelfnoaa", sum := "dd9893f174fff5d9a24f4699a8036ad2213b6d4350b5fd402c0d003e22bdf3d8", func := "blackbox/blackboxlaw24.GraphLeast", spec := "graphLeast", unfollowed := true, recurses := true, apart := false }
def GraphLeastSaid : Prop := graphLeastRow.holds Try.pinned (OpenSpec.ofChange graphLeastSpec)

/-- ITS FALSE NEIGHBOUR: 'it returns false'. Refute it at one input. -/
def graphLeastWrong : ChangeSpec := { name := "graphLeast", fn := fun _ => fun
  | [d1, d2, d3] => { results := [.lit (.bool false)], args := [d1, d2, d3] }
  | _ => none }
def GraphLeastWrongFalsely : Prop := graphLeastRow.holds Try.pinned (OpenSpec.ofChange graphLeastWrong)

/-- 'blackboxlaw24.GraphNear': WHATEVER THE INPUT: true; the input reads as it did. -/
def graphNearSpec : ChangeSpec := { name := "graphNear", fn := fun _ => fun
  | [d1, d2, d3, d4, d5] => { results := [.lit (.bool true)], args := [d1, d2, d3, d4, d5] }
  | _ => none }
def graphNearRow : OpenClaim := { program := "ytmdagajbelfnoaa", sum := "dd9893f174fff5d9a24f4699a8036ad2213b6d4350b5fd402c0d003e22bdf3d8", func := "blackbox/blackboxlaw24.GraphNear", spec := "graphNear", unfollowed := true, recurses := true, apart := false }
def GraphNearSaid : Prop := graphNearRow.holds Try.pinned (OpenSpec.ofChange graphNearSpec)

/-- ITS FALSE NEIGHBOUR: 'it returns false'. Refute it at one input. -/
def graphNearWrong : ChangeSpec := { name := "graphNear", fn := fun _ => fun
  | [d1, d2, d3, d4, d5] => { results := [.lit (.bool false)], args := [d1, d2, d3, d4, d5] }
  | _ => none }
def GraphNearWrongFalsely : Prop := graphNearRow.holds Try.pinned (OpenSpec.ofChange graphNearWrong)

/- THE SECOND FORM. 'bulk': how many values and letters a reading holds, each counted each time it is reached (what is shared counts as often as it is met; a slice's spare places count too). A statement '..UptoSaid' is the law's where the arguments, and the package variables that the reading takes, are together of bulk at most 1048576: NARROWER than '..Said'. Prove '..Said' where nothing that the law and all that it calls make is longer than what came in: it says more and counts as full. Else prove '..UptoSaid'. A law counts once. -/
mutual
def uptoBulk {H : Type} : DataW H → Nat
  | .lit (.string bytes) => bytes.length + 1
  | .lit _ => 1
  | .nil => 1
  | .ptr d => uptoBulk d + 1
  | .slice elems spare => uptoBulkAll elems + uptoBulkAll spare + 1
  | .agg parts => uptoBulkAll parts + 1
  | .iface _ d => uptoBulk d + 1
  | .map entries => uptoBulkEntries entries + 1
  | .held _ => 1
def uptoBulkAll {H : Type} : List (DataW H) → Nat
  | [] => 0
  | d :: r => uptoBulk d + uptoBulkAll r
def uptoBulkEntries {H : Type} : List (Lit × DataW H) → Nat
  | [] => 0
  | x :: r => uptoBulkEntry x + uptoBulkEntries r
def uptoBulkEntry {H : Type} : Lit × DataW H → Nat
  | (.string bytes, d) => bytes.length + uptoBulk d + 1
  | (_, d) => uptoBulk d + 1
 end
def uptoSmall : (H : Type) → List (DataW H) → Bool := fun _ ds => decide (uptoBulkAll ds ≤ 1048576)
def OpenSpec.upto (s : _root_.Go.ChangeSpec) : _root_.Go.OpenSpec := { _root_.Go.OpenSpec.ofChange s with cond := some uptoSmall }

/-- 'blackboxlaw24.GraphSets', WHERE WHAT IT READS IS OF BULK AT MOST 1048576: true; the input reads as it did. -/
def graphSetsUptoRow : OpenClaim := { program := "ytmdagajbelfnoaa", sum := "dd9893f174fff5d9a24f4699a8036ad2213b6d4350b5fd402c0d003e22bdf3d8", func := "blackbox/blackboxlaw24.GraphSets", spec := "graphSets", unfollowed := true, recurses := true, apart := false, narrowed := true }
def GraphSetsUptoSaid : Prop := graphSetsUptoRow.holds Try.pinned (OpenSpec.upto graphSetsSpec)

/-- 'blackboxlaw24.GraphWays', WHERE WHAT IT READS IS OF BULK AT MOST 1048576: true; the input reads as it did. -/
def graphWaysUptoRow : OpenClaim := { program := "ytmdagajbelfnoaa", sum := "dd9893f174fff5d9a24f4699a8036ad2213b6d4350b5fd402c0d003e22bdf3d8", func := "blackbox/blackboxlaw24.GraphWays", spec := "graphWays", unfollowed := true, recurses := true, apart := false, narrowed := true }
def GraphWaysUptoSaid : Prop := graphWaysUptoRow.holds Try.pinned (OpenSpec.upto graphWaysSpec)

/-- 'blackboxlaw24.GraphTurns', WHERE WHAT IT READS IS OF BULK AT MOST 1048576: true; the input reads as it did. -/
def graphTurnsUptoRow : OpenClaim := { program := "ytmdagajbelfnoaa", sum := "dd9893f174fff5d9a24f4699a8036ad2213b6d4350b5fd402c0d003e22bdf3d8", func := "blackbox/blackboxlaw24.GraphTurns", spec := "graphTurns", unfollowed := true, recurses := true, apart := false, narrowed := true }
def GraphTurnsUptoSaid : Prop := graphTurnsUptoRow.holds Try.pinned (OpenSpec.upto graphTurnsSpec)

/-- 'blackboxlaw24.GraphLeast', WHERE WHAT IT READS IS OF BULK AT MOST 1048576: true; the input reads as it did. -/
def graphLeastUptoRow : OpenClaim := { program := "ytmdagajbelfnoaa", sum := "dd9893f174fff5d9a24f4699a8036ad2213b6d4350b5fd402c0d003e22bdf3d8", func := "blackbox/blackboxlaw24.GraphLeast", spec := "graphLeast", unfollowed := true, recurses := true, apart := false, narrowed := true }
def GraphLeastUptoSaid : Prop := graphLeastUptoRow.holds Try.pinned (OpenSpec.upto graphLeastSpec)

/-- 'blackboxlaw24.GraphNear', WHERE WHAT IT READS IS OF BULK AT MOST 1048576: true; the input reads as it did. -/
def graphNearUptoRow : OpenClaim := { program := "ytmdagajbelfnoaa", sum := "dd9893f174fff5d9a24f4699a8036ad2213b6d4350b5fd402c0d003e22bdf3d8", func := "blackbox/blackboxlaw24.GraphNear", spec := "graphNear", unfollowed := true, recurses := true, apart := false, narrowed := true }
def GraphNearUptoSaid : Prop := graphNearUptoRow.holds Try.pinned (OpenSpec.upto graphNearSpec)

end Rows
end Go.Proofs.Ytmdagajbelfnoaa
