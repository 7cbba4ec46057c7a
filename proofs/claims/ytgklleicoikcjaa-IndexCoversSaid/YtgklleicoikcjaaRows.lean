/-
  No cell of these rows narrows 'for every input' (looked for: loops, veiled, ifaces, maps, wideKeys, modest, calm, conditions, laid).
  DERIVED. THE GIVEN ROWS OF THIS SEAT. 3 by the template 'for every input the law returns true; each argument reads behind the call as it read before'; 0 by the template 'total and deterministic' (their statements: YtgklleicoikcjaaTotals.lean).
  GIVEN WITH THE SEED: the statements are not yours to turn. If you find one false, say at which input.
  Laid BY PROGRAM, IN A SANDBOX (cutbox-rows.mjs): the forced cells as the released guide's own fill.sh prints them over the translation 5d9dd40da5fb9514… (all of the seat's roots in one cut). By AI agents, Wed Nov 11 2026. No macro, syntax, notation, axiom, sorry.
-/
import Derived.Test.YtgklleicoikcjaaChecked
import GoSem.Claim
import GoSem.ClaimJoined
import GoSem.ClaimMapViews
import Derived.JoinedTies
import Derived.KernelRfl
namespace Go.Proofs.Ytgklleicoikcjaa
/- THE CELL 'sum', in the pinned program and in every row, IS THE sha256 OF THE DUMP (.gsa) THAT YtgklleicoikcjaaProg.lean LOADS. Nothing in Lean hashes anything: it is a label: what it is worth is what the hold of that sum in a sandbox is worth. -/
noncomputable def Try.pinned : Pinned := { name := "ytgklleicoikcjaa", sum := "5d9dd40da5fb951480b45cce221b33659bfefe7a80a7346b5098238506bc34e6", checked := Try.checked }
namespace Rows
def none {H : Type} : Left H := { results := [], args := [] }

/-- 'blackboxlaw14.IndexCovers': WHATEVER THE INPUT: true; the input reads as it did. -/
def indexCoversSpec : ChangeSpec := { name := "indexCovers", fn := fun _ => fun
  | [d1, d2] => { results := [.lit (.bool true)], args := [d1, d2] }
  | _ => none }
def indexCoversRow : OpenClaim := { program := "ytgklleicoikcjaa", sum := "5d9dd40da5fb951480b45cce221b33659bfefe7a80a7346b5098238506bc34e6", func := "blackbox/blackboxlaw14.IndexCovers", spec := "indexCovers", inPlace := ["internal/abi.NoEscape"], unfollowed := true, recurses := true, apart := false }
def IndexCoversSaid : Prop := indexCoversRow.holds Try.pinned (OpenSpec.ofChange indexCoversSpec)

/-- ITS FALSE NEIGHBOUR: 'it returns false'. Refute it at one input. -/
def indexCoversWrong : ChangeSpec := { name := "indexCovers", fn := fun _ => fun
  | [d1, d2] => { results := [.lit (.bool false)], args := [d1, d2] }
  | _ => none }
def IndexCoversWrongFalsely : Prop := indexCoversRow.holds Try.pinned (OpenSpec.ofChange indexCoversWrong)

/-- 'blackboxlaw14.IndexJoins': WHATEVER THE INPUT: true; the input reads as it did. -/
def indexJoinsSpec : ChangeSpec := { name := "indexJoins", fn := fun _ => fun
  | [d1, d2, d3, d4, d5] => { results := [.lit (.bool true)], args := [d1, d2, d3, d4, d5] }
  | _ => none }
def indexJoinsRow : OpenClaim := { program := "ytgklleicoikcjaa", sum := "5d9dd40da5fb951480b45cce221b33659bfefe7a80a7346b5098238506bc34e6", func := "blackbox/blackboxlaw14.IndexJoins", spec := "indexJoins", inPlace := ["internal/abi.NoEscape"], unfollowed := true, recurses := true, apart := false }
def IndexJoinsSaid : Prop := indexJoinsRow.holds Try.pinned (OpenSpec.ofChange indexJoinsSpec)

/-- ITS FALSE NEIGHBOUR: 'it returns false'. Refute it at one input. -/
def indexJoinsWrong : ChangeSpec := { name := "indexJoins", fn := fun _ => fun
  | [d1, d2, d3, d4, d5] => { results := [.lit (.bool false)], args := [d1, d2, d3, d4, d5] }
  | _ => none }
def IndexJoinsWrongFalsely : Prop := indexJoinsRow.holds Try.pinned (OpenSpec.ofChange indexJoinsWrong)

/-- 'blackboxlaw14.IndexBack': WHATEVER THE INPUT: true; the input reads as it did. -/
def indexBackSpec : ChangeSpec := { name := "indexBack", fn := fun _ => fun
  | [d1, d2] => { results := [.lit (.bool true)], args := [d1, d2] }
  | _ => none }
def indexBackRow : OpenClaim := { program := "ytgklleicoikcjaa", sum := "5d9dd40da5fb951480b45cce221b33659bfefe7a80a7346b5098238506bc34e6", func := "blackbox/blackboxlaw14.IndexBack", spec := "indexBack", inPlace := ["internal/abi.NoEscape"], unfollowed := true, recurses := true, apart := false }
def IndexBackSaid : Prop := indexBackRow.holds Try.pinned (OpenSpec.ofChange indexBackSpec)

/-- ITS FALSE NEIGHBOUR: 'it returns false'. Refute it at one input. -/
def indexBackWrong : ChangeSpec := { name := "indexBack", fn := fun _ => fun
  | [d1, d2] => { results := [.lit (.bool false)], args := [d1, d2] }
  | _ => none }
def IndexBackWrongFalsely : Prop := indexBackRow.holds Try.pinned (OpenSpec.ofChange indexBackWrong)

/- THE SECOND FORM. 'bulk': how many values and letters a reading holds, each counted each time it is reached (what is shared counts as often as it is met; a slice's spare places count too). A statement '..UptoSaid' is the law's where the arguments, and the package variables that the reading takes, are together of bulk at most 1048576: NARROWER than '..Said'. Prove '..Said' where nothing that the law and all that it calls make is longer than what came in: it says more and counts as full. Else prove '..UptoSaid'. A law counts once. -/
mutual
def uptoBulk {H : Type} : DataW H → Nat
  | .lit (.string bytes) => bytes.length + 1
  | .lit _ => 1
  | .nil => 1
  | .ptr d => uptoBulk d + 1
  | .slice elems spare => uptoBulkAll elems + uptoBulkAll spare + 1
  | .agg parts => uptoBulkAll parts + 1
  | .iface _ d => uptoBulk d + 1
  | .map entries => uptoBulkEntries entries + 1
  | .held _ => 1
def uptoBulkAll {H : Type} : List (DataW H) → Nat
  | [] => 0
  | d :: r => uptoBulk d + uptoBulkAll r
def uptoBulkEntries {H : Type} : List (Lit × DataW H) → Nat
  | [] => 0
  | x :: r => uptoBulkEntry x + uptoBulkEntries r
def uptoBulkEntry {H : Type} : Lit × DataW H → Nat
  | (.string bytes, d) => bytes.length + uptoBulk d + 1
  | (_, d) => uptoBulk d + 1
 end
def uptoSmall : (H : Type) → List (DataW H) → Bool := fun _ ds => decide (uptoBulkAll ds ≤ 1048576)
def OpenSpec.upto (s : _root_.Go.ChangeSpec) : _root_.Go.OpenSpec := { _root_.Go.OpenSpec.ofChange s with cond := some uptoSmall }

/-- 'blackboxlaw14.IndexCovers', WHERE WHAT IT READS IS OF BULK AT MOST 1048576: true; the input reads as it did. -/
def indexCoversUptoRow : OpenClaim := { program := "ytgklleicoikcjaa", sum := "5d9dd40da5fb951480b45cce221b33659bfefe7a80a7346b5098238506bc34e6", func := "blackbox/blackboxlaw14.IndexCovers", spec := "indexCovers", inPlace := ["internal/abi.NoEscape"], unfollowed := true, recurses := true, apart := false, narrowed := true }
def IndexCoversUptoSaid : Prop := indexCoversUptoRow.holds Try.pinned (OpenSpec.upto indexCoversSpec)

/-- 'blackboxlaw14.IndexJoins', WHERE WHAT IT READS IS OF BULK AT MOST 1048576: true; the input reads as it did. -/
def indexJoinsUptoRow : OpenClaim := { program := "ytgklleicoikcjaa", sum := "5d9dd40da5fb951480b45cce221b33659bfefe7a80a7346b5098238506bc34e6", func := "blackbox/blackboxlaw14.IndexJoins", spec := "indexJoins", inPlace := ["internal/abi.NoEscape"], unfollowed := true, recurses := true, apart := false, narrowed := true }
def IndexJoinsUptoSaid : Prop := indexJoinsUptoRow.holds Try.pinned (OpenSpec.upto indexJoinsSpec)

/-- 'blackboxlaw14.IndexBack', WHERE WHAT IT READS IS OF BULK AT MOST 1048576: true; the input reads as it did. -/
def indexBackUptoRow : OpenClaim := { program := "ytgklleicoikcjaa", sum := "5d9dd40da5fb951480b45cce221b33659bfefe7a80a7346b5098238506bc34e6", func := "blackbox/blackboxlaw14.IndexBack", spec := "indexBack", inPlace := ["internal/abi.NoEscape"], unfollowed := true, recurses := true, apart := false, narrowed := true }
def IndexBackUptoSaid : Prop := indexBackUptoRow.holds Try.pinned (OpenSpec.upto indexBackSpec)

end Rows
end Go.Proofs.Ytgklleicoikcjaa
