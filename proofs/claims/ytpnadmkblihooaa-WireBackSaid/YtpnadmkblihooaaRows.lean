/-
  No cell of these rows narrows 'for every input' (looked for: loops, veiled, ifaces, maps, wideKeys, modest, calm, conditions, laid).
  DERIVED. THE GIVEN ROWS OF THIS SEAT. 7 by the template 'for every input the law returns true; each argument reads behind the call as it read before'; 0 by the template 'total and deterministic' (their statements: YtpnadmkblihooaaTotals.lean).
  GIVEN WITH THE SEED: the statements are not yours to turn. If you find one false, say at which input.
  Laid BY PROGRAM, IN A SANDBOX (cutbox-rows.mjs): the forced cells as the released guide's own fill.sh prints them over the translation 6dfc83225ee87ec3… (all of the seat's roots in one cut). By AI agents, Wed Nov 11 2026. No macro, syntax, notation, axiom, sorry.
-/
import Derived.Test.YtpnadmkblihooaaChecked
import GoSem.Claim
import GoSem.ClaimJoined
import GoSem.ClaimMapViews
import Derived.JoinedTies
import Derived.KernelRfl
namespace Go.Proofs.Ytpnadmkblihooaa
/- THE CELL 'sum', in the pinned program and in every row, IS THE sha256 OF THE DUMP (.gsa) THAT YtpnadmkblihooaaProg.lean LOADS. Nothing in Lean hashes anything: it is a label: what it is worth is what the hold of that sum in a sandbox is worth. -/
noncomputable def Try.pinned : Pinned := { name := "ytpnadmkblihooaa", sum := "6dfc83225ee87ec37c87424787d36cd5918b51fbad238d9ffddcdd7627de17c7", checked := Try.checked }
namespace Rows
def none {H : Type} : Left H := { results := [], args := [] }

/-- 'blackboxlaw03.WireNumbers': WHATEVER THE INPUT: true; the input reads as it did. -/
def wireNumbersSpec : ChangeSpec := { name := "wireNumbers", fn := fun _ => fun
  | [d1, d2] => { results := [.lit (.bool true)], args := [d1, d2] }
  | _ => none }
def wireNumbersRow : OpenClaim := { program := "ytpnadmkblihooaa", sum := "6dfc83225ee87ec37c87424787d36cd5918b51fbad238d9ffddcdd7627de17c7", func := "blackbox/blackboxlaw03.WireNumbers", spec := "wireNumbers", apart := false }
def WireNumbersSaid : Prop := wireNumbersRow.holds Try.pinned (OpenSpec.ofChange wireNumbersSpec)

/-- ITS FALSE NEIGHBOUR: 'it returns false'. Refute it at one input. -/
def wireNumbersWrong : ChangeSpec := { name := "wireNumbers", fn := fun _ => fun
  | [d1, d2] => { results := [.lit (.bool false)], args := [d1, d2] }
  | _ => none }
def WireNumbersWrongFalsely : Prop := wireNumbersRow.holds Try.pinned (OpenSpec.ofChange wireNumbersWrong)

/-- 'blackboxlaw03.WireSigns': WHATEVER THE INPUT: true; the input reads as it did. -/
def wireSignsSpec : ChangeSpec := { name := "wireSigns", fn := fun _ => fun
  | [d1, d2, d3] => { results := [.lit (.bool true)], args := [d1, d2, d3] }
  | _ => none }
def wireSignsRow : OpenClaim := { program := "ytpnadmkblihooaa", sum := "6dfc83225ee87ec37c87424787d36cd5918b51fbad238d9ffddcdd7627de17c7", func := "blackbox/blackboxlaw03.WireSigns", spec := "wireSigns", apart := false }
def WireSignsSaid : Prop := wireSignsRow.holds Try.pinned (OpenSpec.ofChange wireSignsSpec)

/-- ITS FALSE NEIGHBOUR: 'it returns false'. Refute it at one input. -/
def wireSignsWrong : ChangeSpec := { name := "wireSigns", fn := fun _ => fun
  | [d1, d2, d3] => { results := [.lit (.bool false)], args := [d1, d2, d3] }
  | _ => none }
def WireSignsWrongFalsely : Prop := wireSignsRow.holds Try.pinned (OpenSpec.ofChange wireSignsWrong)

/-- 'blackboxlaw03.WireOrder': WHATEVER THE INPUT: true; the input reads as it did. -/
def wireOrderSpec : ChangeSpec := { name := "wireOrder", fn := fun _ => fun
  | [d1, d2] => { results := [.lit (.bool true)], args := [d1, d2] }
  | _ => none }
def wireOrderRow : OpenClaim := { program := "ytpnadmkblihooaa", sum := "6dfc83225ee87ec37c87424787d36cd5918b51fbad238d9ffddcdd7627de17c7", func := "blackbox/blackboxlaw03.WireOrder", spec := "wireOrder", apart := false }
def WireOrderSaid : Prop := wireOrderRow.holds Try.pinned (OpenSpec.ofChange wireOrderSpec)

/-- ITS FALSE NEIGHBOUR: 'it returns false'. Refute it at one input. -/
def wireOrderWrong : ChangeSpec := { name := "wireOrder", fn := fun _ => fun
  | [d1, d2] => { results := [.lit (.bool false)], args := [d1, d2] }
  | _ => none }
def WireOrderWrongFalsely : Prop := wireOrderRow.holds Try.pinned (OpenSpec.ofChange wireOrderWrong)

/-- 'blackboxlaw03.WireTexts': WHATEVER THE INPUT: true; the input reads as it did. -/
def wireTextsSpec : ChangeSpec := { name := "wireTexts", fn := fun _ => fun
  | [d1, d2] => { results := [.lit (.bool true)], args := [d1, d2] }
  | _ => none }
def wireTextsRow : OpenClaim := { program := "ytpnadmkblihooaa", sum := "6dfc83225ee87ec37c87424787d36cd5918b51fbad238d9ffddcdd7627de17c7", func := "blackbox/blackboxlaw03.WireTexts", spec := "wireTexts", apart := false }
def WireTextsSaid : Prop := wireTextsRow.holds Try.pinned (OpenSpec.ofChange wireTextsSpec)

/-- ITS FALSE NEIGHBOUR: 'it returns false'. Refute it at one input. -/
def wireTextsWrong : ChangeSpec := { name := "wireTexts", fn := fun _ => fun
  | [d1, d2] => { results := [.lit (.bool false)], args := [d1, d2] }
  | _ => none }
def WireTextsWrongFalsely : Prop := wireTextsRow.holds Try.pinned (OpenSpec.ofChange wireTextsWrong)

/-- 'blackboxlaw03.WireTextBack': WHATEVER THE INPUT: true; the input reads as it did. -/
def wireTextBackSpec : ChangeSpec := { name := "wireTextBack", fn := fun _ => fun
  | [d1, d2] => { results := [.lit (.bool true)], args := [d1, d2] }
  | _ => none }
def wireTextBackRow : OpenClaim := { program := "ytpnadmkblihooaa", sum := "6dfc83225ee87ec37c87424787d36cd5918b51fbad238d9ffddcdd7627de17c7", func := "blackbox/blackboxlaw03.WireTextBack", spec := "wireTextBack", apart := false }
def WireTextBackSaid : Prop := wireTextBackRow.holds Try.pinned (OpenSpec.ofChange wireTextBackSpec)

/-- ITS FALSE NEIGHBOUR: 'it returns false'. Refute it at one input. -/
def wireTextBackWrong : ChangeSpec := { name := "wireTextBack", fn := fun _ => fun
  | [d1, d2] => { results := [.lit (.bool false)], args := [d1, d2] }
  | _ => none }
def WireTextBackWrongFalsely : Prop := wireTextBackRow.holds Try.pinned (OpenSpec.ofChange wireTextBackWrong)

/-- 'blackboxlaw03.WireWidths': WHATEVER THE INPUT: true; the input reads as it did. -/
def wireWidthsSpec : ChangeSpec := { name := "wireWidths", fn := fun _ => fun
  | [d1, d2, d3] => { results := [.lit (.bool true)], args := [d1, d2, d3] }
  | _ => none }
def wireWidthsRow : OpenClaim := { program := "ytpnadmkblihooaa", sum := "6dfc83225ee87ec37c87424787d36cd5918b51fbad238d9ffddcdd7627de17c7", func := "blackbox/blackboxlaw03.WireWidths", spec := "wireWidths", apart := false }
def WireWidthsSaid : Prop := wireWidthsRow.holds Try.pinned (OpenSpec.ofChange wireWidthsSpec)

/-- ITS FALSE NEIGHBOUR: 'it returns false'. Refute it at one input. -/
def wireWidthsWrong : ChangeSpec := { name := "wireWidths", fn := fun _ => fun
  | [d1, d2, d3] => { results := [.lit (.bool false)], args := [d1, d2, d3] }
  | _ => none }
def WireWidthsWrongFalsely : Prop := wireWidthsRow.holds Try.pinned (OpenSpec.ofChange wireWidthsWrong)

/-- 'blackboxlaw03.WireBack': WHATEVER THE INPUT: true; the input reads as it did. -/
def wireBackSpec : ChangeSpec := { name := "wireBack", fn := fun _ => fun
  | [d1, d2, d3, d4] => { results := [.lit (.bool true)], args := [d1, d2, d3, d4] }
  | _ => none }
def wireBackRow : OpenClaim := { program := "ytpnadmkblihooaa", sum := "6dfc83225ee87ec37c87424787d36cd5918b51fbad238d9ffddcdd7627de17c7", func := "blackbox/blackboxlaw03.WireBack", spec := "wireBack", apart := false }
def WireBackSaid : Prop := wireBackRow.holds Try.pinned (OpenSpec.ofChange wireBackSpec)

/-- ITS FALSE NEIGHBOUR: 'it returns false'. Refute it at one input. -/
def wireBackWrong : ChangeSpec := { name := "wireBack", fn := fun _ => fun
  | [d1, d2, d3, d4] => { results := [.lit (.bool false)], args := [d1, d2, d3, d4] }
  | _ => none }
def WireBackWrongFalsely : Prop := wireBackRow.holds Try.pinned (OpenSpec.ofChange wireBackWrong)

/- THE SECOND FORM. 'bulk': how many values and letters a reading holds, each counted each time it is reached (what is shared counts as often as it is met; a slice's spare places count too). A statement '..UptoSaid' is the law's where the arguments, and the package variables that the reading takes, are together of bulk at most 1048576: NARROWER than '..Said'. Prove '..Said' where nothing that the law and all that it calls make is longer than what came in: it says more and counts as full. Else prove '..UptoSaid'. A law counts once. -/
mutual
def uptoBulk {H : Type} : DataW H → Nat
  | .lit (.string bytes) => bytes.length + 1
  | .lit _ => 1
  | .nil => 1
  | .ptr d => uptoBulk d + 1
  | .slice elems spare => uptoBulkAll elems + uptoBulkAll spare + 1
  | .agg parts => uptoBulkAll parts + 1
  | .iface _ d => uptoBulk d + 1
  | .map entries => uptoBulkEntries entries + 1
  | .held _ => 1
def uptoBulkAll {H : Type} : List (DataW H) → Nat
  | [] => 0
  | d :: r => uptoBulk d + uptoBulkAll r
def uptoBulkEntries {H : Type} : List (Lit × DataW H) → Nat
  | [] => 0
  | x :: r => uptoBulkEntry x + uptoBulkEntries r
def uptoBulkEntry {H : Type} : Lit × DataW H → Nat
  | (.string bytes, d) => bytes.length + uptoBulk d + 1
  | (_, d) => uptoBulk d + 1
 end
def uptoSmall : (H : Type) → List (DataW H) → Bool := fun _ ds => decide (uptoBulkAll ds ≤ 1048576)
def OpenSpec.upto (s : _root_.Go.ChangeSpec) : _root_.Go.OpenSpec := { _root_.Go.OpenSpec.ofChange s with cond := some uptoSmall }

/-- 'blackboxlaw03.WireNumbers', WHERE WHAT IT READS IS OF BULK AT MOST 1048576: true; the input reads as it did. -/
def wireNumbersUptoRow : OpenClaim := { program := "ytpnadmkblihooaa", sum := "6dfc83225ee87ec37c87424787d36cd5918b51fbad238d9ffddcdd7627de17c7", func := "blackbox/blackboxlaw03.WireNumbers", spec := "wireNumbers", apart := false, narrowed := true }
def WireNumbersUptoSaid : Prop := wireNumbersUptoRow.holds Try.pinned (OpenSpec.upto wireNumbersSpec)

/-- 'blackboxlaw03.WireSigns', WHERE WHAT IT READS IS OF BULK AT MOST 1048576: true; the input reads as it did. -/
def wireSignsUptoRow : OpenClaim := { program := "ytpnadmkblihooaa", sum := "6dfc83225ee87ec37c87424787d36cd5918b51fbad238d9ffddcdd7627de17c7", func := "blackbox/blackboxlaw03.WireSigns", spec := "wireSigns", apart := false, narrowed := true }
def WireSignsUptoSaid : Prop := wireSignsUptoRow.holds Try.pinned (OpenSpec.upto wireSignsSpec)

/-- 'blackboxlaw03.WireOrder', WHERE WHAT IT READS IS OF BULK AT MOST 1048576: true; the input reads as it did. -/
def wireOrderUptoRow : OpenClaim := { program := "ytpnadmkblihooaa", sum := "6dfc83225ee87ec37c87424787d36cd5918b51fbad238d9ffddcdd7627de17c7", func := "blackbox/blackboxlaw03.WireOrder", spec := "wireOrder", apart := false, narrowed := true }
def WireOrderUptoSaid : Prop := wireOrderUptoRow.holds Try.pinned (OpenSpec.upto wireOrderSpec)

/-- 'blackboxlaw03.WireTexts', WHERE WHAT IT READS IS OF BULK AT MOST 1048576: true; the input reads as it did. -/
def wireTextsUptoRow : OpenClaim := { program := "ytpnadmkblihooaa", sum := "6dfc83225ee87ec37c87424787d36cd5918b51fbad238d9ffddcdd7627de17c7", func := "blackbox/blackboxlaw03.WireTexts", spec := "wireTexts", apart := false, narrowed := true }
def WireTextsUptoSaid : Prop := wireTextsUptoRow.holds Try.pinned (OpenSpec.upto wireTextsSpec)

/-- 'blackboxlaw03.WireTextBack', WHERE WHAT IT READS IS OF BULK AT MOST 1048576: true; the input reads as it did. -/
def wireTextBackUptoRow : OpenClaim := { program := "ytpnadmkblihooaa", sum := "6dfc83225ee87ec37c87424787d36cd5918b51fbad238d9ffddcdd7627de17c7", func := "blackbox/blackboxlaw03.WireTextBack", spec := "wireTextBack", apart := false, narrowed := true }
def WireTextBackUptoSaid : Prop := wireTextBackUptoRow.holds Try.pinned (OpenSpec.upto wireTextBackSpec)

/-- 'blackboxlaw03.WireWidths', WHERE WHAT IT READS IS OF BULK AT MOST 1048576: true; the input reads as it did. -/
def wireWidthsUptoRow : OpenClaim := { program := "ytpnadmkblihooaa", sum := "6dfc83225ee87ec37c87424787d36cd5918b51fbad238d9ffddcdd7627de17c7", func := "blackbox/blackboxlaw03.WireWidths", spec := "wireWidths", apart := false, narrowed := true }
def WireWidthsUptoSaid : Prop := wireWidthsUptoRow.holds Try.pinned (OpenSpec.upto wireWidthsSpec)

/-- 'blackboxlaw03.WireBack', WHERE WHAT IT READS IS OF BULK AT MOST 1048576: true; the input reads as it did. -/
def wireBackUptoRow : OpenClaim := { program := "ytpnadmkblihooaa", sum := "6dfc83225ee87ec37c87424787d36cd5918b51fbad238d9ffddcdd7627de17c7", func := "blackbox/blackboxlaw03.WireBack", spec := "wireBack", apart := false, narrowed := true }
def WireBackUptoSaid : Prop := wireBackUptoRow.holds Try.pinned (OpenSpec.upto wireBackSpec)

end Rows
end Go.Proofs.Ytpnadmkblihooaa
