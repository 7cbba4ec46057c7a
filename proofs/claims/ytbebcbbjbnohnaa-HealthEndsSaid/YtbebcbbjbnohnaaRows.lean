/-
  No cell of these rows narrows 'for every input' (looked for: loops, veiled, ifaces, maps, wideKeys, modest, calm, conditions, laid).
  DERIVED. THE GIVEN ROWS OF THIS SEAT. 4 by the template 'for every input the law returns true; each argument reads behind the call as it read before'; 0 by the template 'total and deterministic' (their statements: YtbebcbbjbnohnaaTotals.lean).
  GIVEN WITH THE SEED: the statements are not yours to turn. If you find one false, say at which input.
  Laid BY PROGRAM, IN A SANDBOX (cutbox-rows.mjs): the forced cells as the released guide's own fill.sh prints them over the translation bd862c814d0eeac8… (all of the seat's roots in one cut). By AI agents, Wed Nov 11 2026. No macro, syntax, notation, axiom, sorry.
-/
import Derived.Test.YtbebcbbjbnohnaaChecked
import GoSem.Claim
import GoSem.ClaimJoined
import GoSem.ClaimMapViews
import Derived.JoinedTies
import Derived.KernelRfl
namespace Go.Proofs.Ytbebcbbjbnohnaa
/- THE CELL 'sum', in the pinned program and in every row, IS THE sha256 OF THE DUMP (.gsa) THAT YtbebcbbjbnohnaaProg.lean LOADS. Nothing in Lean hashes anything: it is a label: what it is worth is what the hold of that sum in a sandbox is worth. -/
noncomputable def Try.pinned : Pinned := { name := "ytbebcbbjbnohnaa", sum := "bd862c814d0eeac8cc8fe4f29bc4448958cc22772431fc5b98dc58788a7d4cfd", checked := Try.checked }
namespace Rows
def none {H : Type} : Left H := { results := [], args := [] }

/-- 'blackboxlaw25.HealthTells': WHATEVER THE INPUT: true; the input reads as it did. -/
def healthTellsSpec : ChangeSpec := { name := "healthTells", fn := fun _ => fun
  | [d1, d2] => { results := [.lit (.bool true)], args := [d1, d2] }
  | _ => none }
def healthTellsRow : OpenClaim := { program := "ytbebcbbjbnohnaa", sum := "bd862c814d0eeac8cc8fe4f29bc4448958cc22772431fc5b98dc58788a7d4cfd", func := "blackbox/blackboxlaw25.HealthTells", spec := "healthTells", unfollowed := true, recurses := true, apart := false }
def HealthTellsSaid : Prop := healthTellsRow.holds Try.pinned (OpenSpec.ofChange healthTellsSpec)

/-- ITS FALSE NEIGHBOUR: 'it returns false'. Refute it at one input. -/
def healthTellsWrong : ChangeSpec := { name := "healthTells", fn := fun _ => fun
  | [d1, d2] => { results := [.lit (.bool false)], args := [d1, d2] }
  | _ => none }
def HealthTellsWrongFalsely : Prop := healthTellsRow.holds Try.pinned (OpenSpec.ofChange healthTellsWrong)

/-- 'blackboxlaw25.HealthRows': WHATEVER THE INPUT: true; the input reads as it did. -/
def healthRowsSpec : ChangeSpec := { name := "healthRows", fn := fun _ => fun
  | [d1, d2, d3] => { results := [.lit (.bool true)], args := [d1, d2, d3] }
  | _ => none }
def healthRowsRow : OpenClaim := { program := "ytbebcbbjbnohnaa", sum := "bd862c814d0eeac8cc8fe4f29bc4448958cc22772431fc5b98dc58788a7d4cfd", func := "blackbox/blackboxlaw25.HealthRows", spec := "healthRows", unfollowed := true, recurses := true, apart := false }
def HealthRowsSaid : Prop := healthRowsRow.holds Try.pinned (OpenSpec.ofChange healthRowsSpec)

/-- ITS FALSE NEIGHBOUR: 'it returns false'. Refute it at one input. -/
def healthRowsWrong : ChangeSpec := { name := "healthRows", fn := fun _ => fun
  | [d1, d2, d3] => { results := [.lit (.bool false)], args := [d1, d2, d3] }
  | _ => none }
def HealthRowsWrongFalsely : Prop := healthRowsRow.holds Try.pinned (OpenSpec.ofChange healthRowsWrong)

/-- 'blackboxlaw25.HealthEnds': WHATEVER THE INPUT: true; the input reads as it did. -/
def healthEndsSpec : ChangeSpec := { name := "healthEnds", fn := fun _ => fun
  | [d1, d2] => { results := [.lit (.bool true)], args := [d1, d2] }
  | _ => none }
def healthEndsRow : OpenClaim := { program := "ytbebcbbjbnohnaa", sum := "bd862c814d0eeac8cc8fe4f29bc4448958cc22772431fc5b98dc58788a7d4cfd", func := "blackbox/blackboxlaw25.HealthEnds", spec := "healthEnds", unfollowed := true, recurses := true, apart := false }
def HealthEndsSaid : Prop := healthEndsRow.holds Try.pinned (OpenSpec.ofChange healthEndsSpec)

/-- ITS FALSE NEIGHBOUR: 'it returns false'. Refute it at one input. -/
def healthEndsWrong : ChangeSpec := { name := "healthEnds", fn := fun _ => fun
  | [d1, d2] => { results := [.lit (.bool false)], args := [d1, d2] }
  | _ => none }
def HealthEndsWrongFalsely : Prop := healthEndsRow.holds Try.pinned (OpenSpec.ofChange healthEndsWrong)

/-- 'blackboxlaw25.HealthLeft': WHATEVER THE INPUT: true; the input reads as it did. -/
def healthLeftSpec : ChangeSpec := { name := "healthLeft", fn := fun _ => fun
  | [d1, d2] => { results := [.lit (.bool true)], args := [d1, d2] }
  | _ => none }
def healthLeftRow : OpenClaim := { program := "ytbebcbbjbnohnaa", sum := "bd862c814d0eeac8cc8fe4f29bc4448958cc22772431fc5b98dc58788a7d4cfd", func := "blackbox/blackboxlaw25.HealthLeft", spec := "healthLeft", unfollowed := true, recurses := true, apart := false }
def HealthLeftSaid : Prop := healthLeftRow.holds Try.pinned (OpenSpec.ofChange healthLeftSpec)

/-- ITS FALSE NEIGHBOUR: 'it returns false'. Refute it at one input. -/
def healthLeftWrong : ChangeSpec := { name := "healthLeft", fn := fun _ => fun
  | [d1, d2] => { results := [.lit (.bool false)], args := [d1, d2] }
  | _ => none }
def HealthLeftWrongFalsely : Prop := healthLeftRow.holds Try.pinned (OpenSpec.ofChange healthLeftWrong)

/- THE SECOND FORM. 'bulk': how many values and letters a reading holds, each counted each time it is reached (what is shared counts as often as it is met; a slice's spare places count too). A statement '..UptoSaid' is the law's where the arguments, and the package variables that the reading takes, are together of bulk at most 1048576: NARROWER than '..Said'. Prove '..Said' where nothing that the law and all that it calls make is longer than what came in: it says more and counts as full. Else prove '..UptoSaid'. A law counts once. -/
mutual
def uptoBulk {H : Type} : DataW H → Nat
  | .lit (.string bytes) => bytes.length + 1
  | .lit _ => 1
  | .nil => 1
  | .ptr d => uptoBulk d + 1
  | .slice elems spare => uptoBulkAll elems + uptoBulkAll spare + 1
  | .agg parts => uptoBulkAll parts + 1
  | .iface _ d => uptoBulk d + 1
  | .map entries => uptoBulkEntries entries + 1
  | .held _ => 1
def uptoBulkAll {H : Type} : List (DataW H) → Nat
  | [] => 0
  | d :: r => uptoBulk d + uptoBulkAll r
def uptoBulkEntries {H : Type} : List (Lit × DataW H) → Nat
  | [] => 0
  | x :: r => uptoBulkEntry x + uptoBulkEntries r
def uptoBulkEntry {H : Type} : Lit × DataW H → Nat
  | (.string bytes, d) => bytes.length + uptoBulk d + 1
  | (_, d) => uptoBulk d + 1
 end
def uptoSmall : (H : Type) → List (DataW H) → Bool := fun _ ds => decide (uptoBulkAll ds ≤ 1048576)
def OpenSpec.upto (s : _root_.Go.ChangeSpec) : _root_.Go.OpenSpec := { _root_.Go.OpenSpec.ofChange s with cond := some uptoSmall }

/-- 'blackboxlaw25.HealthTells', WHERE WHAT IT READS IS OF BULK AT MOST 1048576: true; the input reads as it did. -/
def healthTellsUptoRow : OpenClaim := { program := "ytbebcbbjbnohnaa", sum := "bd862c814d0eeac8cc8fe4f29bc4448958cc22772431fc5b98dc58788a7d4cfd", func := "blackbox/blackboxlaw25.HealthTells", spec := "healthTells", unfollowed := true, recurses := true, apart := false, narrowed := true }
def HealthTellsUptoSaid : Prop := healthTellsUptoRow.holds Try.pinned (OpenSpec.upto healthTellsSpec)

/-- 'blackboxlaw25.HealthRows', WHERE WHAT IT READS IS OF BULK AT MOST 1048576: true; the input reads as it did. -/
def healthRowsUptoRow : OpenClaim := { program := "ytbebcbbjbnohnaa", sum := "bd862c814d0eeac8cc8fe4f29bc4448958cc22772431fc5b98dc58788a7d4cfd", func := "blackbox/blackboxlaw25.HealthRows", spec := "healthRows", unfollowed := true, recurses := true, apart := false, narrowed := true }
def HealthRowsUptoSaid : Prop := healthRowsUptoRow.holds Try.pinned (OpenSpec.upto healthRowsSpec)

/-- 'blackboxlaw25.HealthEnds', WHERE WHAT IT READS IS OF BULK AT MOST 1048576: true; the input reads as it did. -/
def healthEndsUptoRow : OpenClaim := { program := "ytbebcbbjbnohnaa", sum := "bd862c814d0eeac8cc8fe4f29bc4448958cc22772431fc5b98dc58788a7d4cfd", func := "blackbox/blackboxlaw25.HealthEnds", spec := "healthEnds", unfollowed := true, recurses := true, apart := false, narrowed := true }
def HealthEndsUptoSaid : Prop := healthEndsUptoRow.holds Try.pinned (OpenSpec.upto healthEndsSpec)

/-- 'blackboxlaw25.HealthLeft', WHERE WHAT IT READS IS OF BULK AT MOST 1048576: true; the input reads as it did. -/
def healthLeftUptoRow : OpenClaim := { program := "ytbebcbbjbnohnaa", sum := "bd862c814d0eeac8cc8fe4f29bc4448958cc22772431fc5b98dc58788a7d4cfd", func := "blackbox/blackboxlaw25.HealthLeft", spec := "healthLeft", unfollowed := true, recurses := true, apart := false, narrowed := true }
def HealthLeftUptoSaid : Prop := healthLeftUptoRow.holds Try.pinned (OpenSpec.upto healthLeftSpec)

end Rows
end Go.Proofs.Ytbebcbbjbnohnaa
