/-
  No cell of these rows narrows 'for every input' (looked for: loops, veiled, ifaces, maps, wideKeys, modest, calm, conditions, laid).
  DERIVED. THE GIVEN ROWS OF THIS SEAT. 5 by the template 'for every input the law returns true; each argument reads behind the call as it read before'; 0 by the template 'total and deterministic' (their statements: YtfioeliejblboaaTotals.lean).
  GIVEN WITH THE SEED: the statements are not yours to turn. If you find one false, say at which input.
  Laid BY PROGRAM, IN A SANDBOX (cutbox-rows.mjs): the forced cells as the released guide's own fill.sh prints them over the translation b8559b9687cfc568… (all of the seat's roots in one cut). By AI agents, Wed Nov 11 2026. No macro, syntax, notation, axiom, sorry.
-/
import Derived.Test.YtfioeliejblboaaChecked
import GoSem.Claim
import GoSem.ClaimJoined
import GoSem.ClaimMapViews
import Derived.JoinedTies
import Derived.KernelRfl
namespace Go.Proofs.Ytfioeliejblboaa
/- THE CELL 'sum', in the pinned program and in every row, IS THE sha256 OF THE DUMP (.gsa) THAT YtfioeliejblboaaProg.lean LOADS. Nothing in Lean hashes anything: it is a label: what it is worth is what the hold of that sum in a sandbox is worth. -/
noncomputable def Try.pinned : Pinned := { name := "ytfioeliejblboaa", sum := "b8559b9687cfc5682cc2ba3d3493c77f94afc8945aad412512547ddca950fbdb", checked := Try.checked }
namespace Rows
def none {H : Type} : Left H := { results := [], args := [] }

/-- 'blackboxlaw21.PvmSteps': WHATEVER THE INPUT: true; the input reads as it did. -/
def pvmStepsSpec : ChangeSpec := { name := "pvmSteps", fn := fun _ => fun
  | [d1, d2, d3, d4] => { results := [.lit (.bool true)], args := [d1, d2, d3, d4] }
  | _ => none }
def pvmStepsRow : OpenClaim := { program := "ytfioeliejblboaa", sum := "b8559b9687cfc5682cc2ba3d3493c77f94afc8945aad412512547ddca950fbdb", func := "blackbox/blackboxlaw21.PvmSteps", spec := "pvmSteps", unfollowed := true, recurses := true, apart := false }
def PvmStepsSaid : Prop := pvmStepsRow.holds Try.pinned (OpenSpec.ofChange pvmStepsSpec)

/-- ITS FALSE NEIGHBOUR: 'it returns false'. Refute it at one input. -/
def pvmStepsWrong : ChangeSpec := { name := "pvmSteps", fn := fun _ => fun
  | [d1, d2, d3, d4] => { results := [.lit (.bool false)], args := [d1, d2, d3, d4] }
  | _ => none }
def PvmStepsWrongFalsely : Prop := pvmStepsRow.holds Try.pinned (OpenSpec.ofChange pvmStepsWrong)

/-- 'blackboxlaw21.PvmRuns': WHATEVER THE INPUT: true; the input reads as it did. -/
def pvmRunsSpec : ChangeSpec := { name := "pvmRuns", fn := fun _ => fun
  | [d1, d2, d3, d4, d5] => { results := [.lit (.bool true)], args := [d1, d2, d3, d4, d5] }
  | _ => none }
def pvmRunsRow : OpenClaim := { program := "ytfioeliejblboaa", sum := "b8559b9687cfc5682cc2ba3d3493c77f94afc8945aad412512547ddca950fbdb", func := "blackbox/blackboxlaw21.PvmRuns", spec := "pvmRuns", unfollowed := true, recurses := true, apart := false }
def PvmRunsSaid : Prop := pvmRunsRow.holds Try.pinned (OpenSpec.ofChange pvmRunsSpec)

/-- ITS FALSE NEIGHBOUR: 'it returns false'. Refute it at one input. -/
def pvmRunsWrong : ChangeSpec := { name := "pvmRuns", fn := fun _ => fun
  | [d1, d2, d3, d4, d5] => { results := [.lit (.bool false)], args := [d1, d2, d3, d4, d5] }
  | _ => none }
def PvmRunsWrongFalsely : Prop := pvmRunsRow.holds Try.pinned (OpenSpec.ofChange pvmRunsWrong)

/-- 'blackboxlaw21.PvmKeeps': WHATEVER THE INPUT: true; the input reads as it did. -/
def pvmKeepsSpec : ChangeSpec := { name := "pvmKeeps", fn := fun _ => fun
  | [d1, d2, d3, d4] => { results := [.lit (.bool true)], args := [d1, d2, d3, d4] }
  | _ => none }
def pvmKeepsRow : OpenClaim := { program := "ytfioeliejblboaa", sum := "b8559b9687cfc5682cc2ba3d3493c77f94afc8945aad412512547ddca950fbdb", func := "blackbox/blackboxlaw21.PvmKeeps", spec := "pvmKeeps", unfollowed := true, recurses := true, apart := false }
def PvmKeepsSaid : Prop := pvmKeepsRow.holds Try.pinned (OpenSpec.ofChange pvmKeepsSpec)

/-- ITS FALSE NEIGHBOUR: 'it returns false'. Refute it at one input. -/
def pvmKeepsWrong : ChangeSpec := { name := "pvmKeeps", fn := fun _ => fun
  | [d1, d2, d3, d4] => { results := [.lit (.bool false)], args := [d1, d2, d3, d4] }
  | _ => none }
def PvmKeepsWrongFalsely : Prop := pvmKeepsRow.holds Try.pinned (OpenSpec.ofChange pvmKeepsWrong)

/-- 'blackboxlaw21.PvmSplits': WHATEVER THE INPUT: true; the input reads as it did. -/
def pvmSplitsSpec : ChangeSpec := { name := "pvmSplits", fn := fun _ => fun
  | [d1, d2, d3, d4, d5, d6] => { results := [.lit (.bool true)], args := [d1, d2, d3, d4, d5, d6] }
  | _ => none }
def pvmSplitsRow : OpenClaim := { program := "ytfioeliejblboaa", sum := "b8559b9687cfc5682cc2ba3d3493c77f94afc8945aad412512547ddca950fbdb", func := "blackbox/blackboxlaw21.PvmSplits", spec := "pvmSplits", unfollowed := true, recurses := true, apart := false }
def PvmSplitsSaid : Prop := pvmSplitsRow.holds Try.pinned (OpenSpec.ofChange pvmSplitsSpec)

/-- ITS FALSE NEIGHBOUR: 'it returns false'. Refute it at one input. -/
def pvmSplitsWrong : ChangeSpec := { name := "pvmSplits", fn := fun _ => fun
  | [d1, d2, d3, d4, d5, d6] => { results := [.lit (.bool false)], args := [d1, d2, d3, d4, d5, d6] }
  | _ => none }
def PvmSplitsWrongFalsely : Prop := pvmSplitsRow.holds Try.pinned (OpenSpec.ofChange pvmSplitsWrong)

/-- 'blackboxlaw21.PvmApart': WHATEVER THE INPUT: true; the input reads as it did. -/
def pvmApartSpec : ChangeSpec := { name := "pvmApart", fn := fun _ => fun
  | [d1, d2, d3, d4, d5, d6, d7, d8] => { results := [.lit (.bool true)], args := [d1, d2, d3, d4, d5, d6, d7, d8] }
  | _ => none }
def pvmApartRow : OpenClaim := { program := "ytfioeliejblboaa", sum := "b8559b9687cfc5682cc2ba3d3493c77f94afc8945aad412512547ddca950fbdb", func := "blackbox/blackboxlaw21.PvmApart", spec := "pvmApart", unfollowed := true, recurses := true, apart := false }
def PvmApartSaid : Prop := pvmApartRow.holds Try.pinned (OpenSpec.ofChange pvmApartSpec)

/-- ITS FALSE NEIGHBOUR: 'it returns false'. Refute it at one input. -/
def pvmApartWrong : ChangeSpec := { name := "pvmApart", fn := fun _ => fun
  | [d1, d2, d3, d4, d5, d6, d7, d8] => { results := [.lit (.bool false)], args := [d1, d2, d3, d4, d5, d6, d7, d8] }
  | _ => none }
def PvmApartWrongFalsely : Prop := pvmApartRow.holds Try.pinned (OpenSpec.ofChange pvmApartWrong)

/- THE SECOND FORM. 'bulk': how many values and letters a reading holds, each counted each time it is reached (what is shared counts as often as it is met; a slice's spare places count too). A statement '..UptoSaid' is the law's where the arguments, and the package variables that the reading takes, are together of bulk at most 1048576: NARROWER than '..Said'. Prove '..Said' where nothing that the law and all that it calls make is longer than what came in: it says more and counts as full. Else prove '..UptoSaid'. A law counts once. -/
mutual
def uptoBulk {H : Type} : DataW H → Nat
  | .lit (.string bytes) => bytes.length + 1
  | .lit _ => 1
  | .nil => 1
  | .ptr d => uptoBulk d + 1
  | .slice elems spare => uptoBulkAll elems + uptoBulkAll spare + 1
  | .agg parts => uptoBulkAll parts + 1
  | .iface _ d => uptoBulk d + 1
  | .map entries => uptoBulkEntries entries + 1
  | .held _ => 1
def uptoBulkAll {H : Type} : List (DataW H) → Nat
  | [] => 0
  | d :: r => uptoBulk d + uptoBulkAll r
def uptoBulkEntries {H : Type} : List (Lit × DataW H) → Nat
  | [] => 0
  | x :: r => uptoBulkEntry x + uptoBulkEntries r
def uptoBulkEntry {H : Type} : Lit × DataW H → Nat
  | (.string bytes, d) => bytes.length + uptoBulk d + 1
  | (_, d) => uptoBulk d + 1
 end
def uptoSmall : (H : Type) → List (DataW H) → Bool := fun _ ds => decide (uptoBulkAll ds ≤ 1048576)
def OpenSpec.upto (s : _root_.Go.ChangeSpec) : _root_.Go.OpenSpec := { _root_.Go.OpenSpec.ofChange s with cond := some uptoSmall }

/-- 'blackboxlaw21.PvmSteps', WHERE WHAT IT READS IS OF BULK AT MOST 1048576: true; the input reads as it did. -/
def pvmStepsUptoRow : OpenClaim := { program := "ytfioeliejblboaa", sum := "b8559b9687cfc5682cc2ba3d3493c77f94afc8945aad412512547ddca950fbdb", func := "blackbox/blackboxlaw21.PvmSteps", spec := "pvmSteps", unfollowed := true, recurses := true, apart := false, narrowed := true }
def PvmStepsUptoSaid : Prop := pvmStepsUptoRow.holds Try.pinned (OpenSpec.upto pvmStepsSpec)

/-- 'blackboxlaw21.PvmRuns', WHERE WHAT IT READS IS OF BULK AT MOST 1048576: true; the input reads as it did. -/
def pvmRunsUptoRow : OpenClaim := { program := "ytfioeliejblboaa", sum := "b8559b9687cfc5682cc2ba3d3493c77f94afc8945aad412512547ddca950fbdb", func := "blackbox/blackboxlaw21.PvmRuns", spec := "pvmRuns", unfollowed := true, recurses := true, apart := false, narrowed := true }
def PvmRunsUptoSaid : Prop := pvmRunsUptoRow.holds Try.pinned (OpenSpec.upto pvmRunsSpec)

/-- 'blackboxlaw21.PvmKeeps', WHERE WHAT IT READS IS OF BULK AT MOST 1048576: true; the input reads as it did. -/
def pvmKeepsUptoRow : OpenClaim := { program := "ytfioeliejblboaa", sum := "b8559b9687cfc5682cc2ba3d3493c77f94afc8945aad412512547ddca950fbdb", func := "blackbox/blackboxlaw21.PvmKeeps", spec := "pvmKeeps", unfollowed := true, recurses := true, apart := false, narrowed := true }
def PvmKeepsUptoSaid : Prop := pvmKeepsUptoRow.holds Try.pinned (OpenSpec.upto pvmKeepsSpec)

/-- 'blackboxlaw21.PvmSplits', WHERE WHAT IT READS IS OF BULK AT MOST 1048576: true; the input reads as it did. -/
def pvmSplitsUptoRow : OpenClaim := { program := "ytfioeliejblboaa", sum := "b8559b9687cfc5682cc2ba3d3493c77f94afc8945aad412512547ddca950fbdb", func := "blackbox/blackboxlaw21.PvmSplits", spec := "pvmSplits", unfollowed := true, recurses := true, apart := false, narrowed := true }
def PvmSplitsUptoSaid : Prop := pvmSplitsUptoRow.holds Try.pinned (OpenSpec.upto pvmSplitsSpec)

/-- 'blackboxlaw21.PvmApart', WHERE WHAT IT READS IS OF BULK AT MOST 1048576: true; the input reads as it did. -/
def pvmApartUptoRow : OpenClaim := { program := "ytfioeliejblboaa", sum := "b8559b9687cfc5682cc2ba3d3493c77f94afc8945aad412512547ddca950fbdb", func := "blackbox/blackboxlaw21.PvmApart", spec := "pvmApart", unfollowed := true, recurses := true, apart := false, narrowed := true }
def PvmApartUptoSaid : Prop := pvmApartUptoRow.holds Try.pinned (OpenSpec.upto pvmApartSpec)

end Rows
end Go.Proofs.Ytfioeliejblboaa
