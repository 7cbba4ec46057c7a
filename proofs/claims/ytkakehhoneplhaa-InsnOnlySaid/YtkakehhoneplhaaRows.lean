/-
  No cell of these rows narrows 'for every input' (looked for: loops, veiled, ifaces, maps, wideKeys, modest, calm, conditions, laid).
  DERIVED. THE GIVEN ROWS OF THIS SEAT. 5 by the template 'for every input the law returns true; each argument reads behind the call as it read before'; 0 by the template 'total and deterministic' (their statements: YtkakehhoneplhaaTotals.lean).
  GIVEN WITH THE SEED: the statements are not yours to turn. If you find one false, say at which input.
  Laid BY PROGRAM, IN A SANDBOX (cutbox-rows.mjs): the forced cells as the released guide's own fill.sh prints them over the translation 5b346ae540b0a278… (all of the seat's roots in one cut). By AI agents, Wed Nov 11 2026. No macro, syntax, notation, axiom, sorry.
-/
import Derived.Test.YtkakehhoneplhaaChecked
import GoSem.Claim
import GoSem.ClaimJoined
import GoSem.ClaimMapViews
import Derived.JoinedTies
import Derived.KernelRfl
namespace Go.Proofs.Ytkakehhoneplhaa
/- THE CELL 'sum', in the pinned program and in every row, IS THE sha256 OF THE DUMP (.gsa) THAT YtkakehhoneplhaaProg.lean LOADS. Nothing in Lean hashes anything: it is a label: what it is worth is what the hold of that sum in a sandbox is worth. -/
noncomputable def Try.pinned : Pinned := { name := "ytkakehhoneplhaa", sum := "5b346ae540b0a278ab629012836be5b3ce626058c21cf534cf6570f24483cc64", checked := Try.checked }
namespace Rows
def none {H : Type} : Left H := { results := [], args := [] }

/-- 'blackboxlaw20.InsnWords': WHATEVER THE INPUT: true; the input reads as it did. -/
def insnWordsSpec : ChangeSpec := { name := "insnWords", fn := fun _ => fun
  | [d1, d2] => { results := [.lit (.bool true)], args := [d1, d2] }
  | _ => none }
def insnWordsRow : OpenClaim := { program := "ytkakehhoneplhaa", sum := "5b346ae540b0a278ab629012836be5b3ce626058c21cf534cf6570f24483cc64", func := "blackbox/blackboxlaw20.InsnWords", spec := "insnWords", inPlace := ["internal/abi.NoEscape"], unfollowed := true, recurses := true, apart := false }
def InsnWordsSaid : Prop := insnWordsRow.holds Try.pinned (OpenSpec.ofChange insnWordsSpec)

/-- ITS FALSE NEIGHBOUR: 'it returns false'. Refute it at one input. -/
def insnWordsWrong : ChangeSpec := { name := "insnWords", fn := fun _ => fun
  | [d1, d2] => { results := [.lit (.bool false)], args := [d1, d2] }
  | _ => none }
def InsnWordsWrongFalsely : Prop := insnWordsRow.holds Try.pinned (OpenSpec.ofChange insnWordsWrong)

/-- 'blackboxlaw20.InsnShows': WHATEVER THE INPUT: true; the input reads as it did. -/
def insnShowsSpec : ChangeSpec := { name := "insnShows", fn := fun _ => fun
  | [d1, d2, d3] => { results := [.lit (.bool true)], args := [d1, d2, d3] }
  | _ => none }
def insnShowsRow : OpenClaim := { program := "ytkakehhoneplhaa", sum := "5b346ae540b0a278ab629012836be5b3ce626058c21cf534cf6570f24483cc64", func := "blackbox/blackboxlaw20.InsnShows", spec := "insnShows", inPlace := ["internal/abi.NoEscape"], unfollowed := true, recurses := true, apart := false }
def InsnShowsSaid : Prop := insnShowsRow.holds Try.pinned (OpenSpec.ofChange insnShowsSpec)

/-- ITS FALSE NEIGHBOUR: 'it returns false'. Refute it at one input. -/
def insnShowsWrong : ChangeSpec := { name := "insnShows", fn := fun _ => fun
  | [d1, d2, d3] => { results := [.lit (.bool false)], args := [d1, d2, d3] }
  | _ => none }
def InsnShowsWrongFalsely : Prop := insnShowsRow.holds Try.pinned (OpenSpec.ofChange insnShowsWrong)

/-- 'blackboxlaw20.InsnBack': WHATEVER THE INPUT: true; the input reads as it did. -/
def insnBackSpec : ChangeSpec := { name := "insnBack", fn := fun _ => fun
  | [d1, d2] => { results := [.lit (.bool true)], args := [d1, d2] }
  | _ => none }
def insnBackRow : OpenClaim := { program := "ytkakehhoneplhaa", sum := "5b346ae540b0a278ab629012836be5b3ce626058c21cf534cf6570f24483cc64", func := "blackbox/blackboxlaw20.InsnBack", spec := "insnBack", inPlace := ["internal/abi.NoEscape"], unfollowed := true, recurses := true, apart := false }
def InsnBackSaid : Prop := insnBackRow.holds Try.pinned (OpenSpec.ofChange insnBackSpec)

/-- ITS FALSE NEIGHBOUR: 'it returns false'. Refute it at one input. -/
def insnBackWrong : ChangeSpec := { name := "insnBack", fn := fun _ => fun
  | [d1, d2] => { results := [.lit (.bool false)], args := [d1, d2] }
  | _ => none }
def InsnBackWrongFalsely : Prop := insnBackRow.holds Try.pinned (OpenSpec.ofChange insnBackWrong)

/-- 'blackboxlaw20.InsnOnly': WHATEVER THE INPUT: true; the input reads as it did. -/
def insnOnlySpec : ChangeSpec := { name := "insnOnly", fn := fun _ => fun
  | [d1, d2, d3, d4] => { results := [.lit (.bool true)], args := [d1, d2, d3, d4] }
  | _ => none }
def insnOnlyRow : OpenClaim := { program := "ytkakehhoneplhaa", sum := "5b346ae540b0a278ab629012836be5b3ce626058c21cf534cf6570f24483cc64", func := "blackbox/blackboxlaw20.InsnOnly", spec := "insnOnly", inPlace := ["internal/abi.NoEscape"], unfollowed := true, recurses := true, apart := false }
def InsnOnlySaid : Prop := insnOnlyRow.holds Try.pinned (OpenSpec.ofChange insnOnlySpec)

/-- ITS FALSE NEIGHBOUR: 'it returns false'. Refute it at one input. -/
def insnOnlyWrong : ChangeSpec := { name := "insnOnly", fn := fun _ => fun
  | [d1, d2, d3, d4] => { results := [.lit (.bool false)], args := [d1, d2, d3, d4] }
  | _ => none }
def InsnOnlyWrongFalsely : Prop := insnOnlyRow.holds Try.pinned (OpenSpec.ofChange insnOnlyWrong)

/-- 'blackboxlaw20.InsnWrong': WHATEVER THE INPUT: true; the input reads as it did. -/
def insnWrongSpec : ChangeSpec := { name := "insnWrong", fn := fun _ => fun
  | [d] => { results := [.lit (.bool true)], args := [d] }
  | _ => none }
def insnWrongRow : OpenClaim := { program := "ytkakehhoneplhaa", sum := "5b346ae540b0a278ab629012836be5b3ce626058c21cf534cf6570f24483cc64", func := "blackbox/blackboxlaw20.InsnWrong", spec := "insnWrong", inPlace := ["internal/abi.NoEscape"], unfollowed := true, recurses := true, apart := false }
def InsnWrongSaid : Prop := insnWrongRow.holds Try.pinned (OpenSpec.ofChange insnWrongSpec)

/-- ITS FALSE NEIGHBOUR: 'it returns false'. Refute it at one input. -/
def insnWrongWrong : ChangeSpec := { name := "insnWrong", fn := fun _ => fun
  | [d] => { results := [.lit (.bool false)], args := [d] }
  | _ => none }
def InsnWrongWrongFalsely : Prop := insnWrongRow.holds Try.pinned (OpenSpec.ofChange insnWrongWrong)

/- THE SECOND FORM. 'bulk': how many values and letters a reading holds, each counted each time it is reached (what is shared counts as often as it is met; a slice's spare places count too). A statement '..UptoSaid' is the law's where the arguments, and the package variables that the reading takes, are together of bulk at most 1048576: NARROWER than '..Said'. Prove '..Said' where nothing that the law and all that it calls make is longer than what came in: it says more and counts as full. Else prove '..UptoSaid'. A law counts once. -/
mutual
def uptoBulk {H : Type} : DataW H → Nat
  | .lit (.string bytes) => bytes.length + 1
  | .lit _ => 1
  | .nil => 1
  | .ptr d => uptoBulk d + 1
  | .slice elems spare => uptoBulkAll elems + uptoBulkAll spare + 1
  | .agg parts => uptoBulkAll parts + 1
  | .iface _ d => uptoBulk d + 1
  | .map entries => uptoBulkEntries entries + 1
  | .held _ => 1
def uptoBulkAll {H : Type} : List (DataW H) → Nat
  | [] => 0
  | d :: r => uptoBulk d + uptoBulkAll r
def uptoBulkEntries {H : Type} : List (Lit × DataW H) → Nat
  | [] => 0
  | x :: r => uptoBulkEntry x + uptoBulkEntries r
def uptoBulkEntry {H : Type} : Lit × DataW H → Nat
  | (.string bytes, d) => bytes.length + uptoBulk d + 1
  | (_, d) => uptoBulk d + 1
 end
def uptoSmall : (H : Type) → List (DataW H) → Bool := fun _ ds => decide (uptoBulkAll ds ≤ 1048576)
def OpenSpec.upto (s : _root_.Go.ChangeSpec) : _root_.Go.OpenSpec := { _root_.Go.OpenSpec.ofChange s with cond := some uptoSmall }

/-- 'blackboxlaw20.InsnWords', WHERE WHAT IT READS IS OF BULK AT MOST 1048576: true; the input reads as it did. -/
def insnWordsUptoRow : OpenClaim := { program := "ytkakehhoneplhaa", sum := "5b346ae540b0a278ab629012836be5b3ce626058c21cf534cf6570f24483cc64", func := "blackbox/blackboxlaw20.InsnWords", spec := "insnWords", inPlace := ["internal/abi.NoEscape"], unfollowed := true, recurses := true, apart := false, narrowed := true }
def InsnWordsUptoSaid : Prop := insnWordsUptoRow.holds Try.pinned (OpenSpec.upto insnWordsSpec)

/-- 'blackboxlaw20.InsnShows', WHERE WHAT IT READS IS OF BULK AT MOST 1048576: true; the input reads as it did. -/
def insnShowsUptoRow : OpenClaim := { program := "ytkakehhoneplhaa", sum := "5b346ae540b0a278ab629012836be5b3ce626058c21cf534cf6570f24483cc64", func := "blackbox/blackboxlaw20.InsnShows", spec := "insnShows", inPlace := ["internal/abi.NoEscape"], unfollowed := true, recurses := true, apart := false, narrowed := true }
def InsnShowsUptoSaid : Prop := insnShowsUptoRow.holds Try.pinned (OpenSpec.upto insnShowsSpec)

/-- 'blackboxlaw20.InsnBack', WHERE WHAT IT READS IS OF BULK AT MOST 1048576: true; the input reads as it did. -/
def insnBackUptoRow : OpenClaim := { program := "ytkakehhoneplhaa", sum := "5b346ae540b0a278ab629012836be5b3ce626058c21cf534cf6570f24483cc64", func := "blackbox/blackboxlaw20.InsnBack", spec := "insnBack", inPlace := ["internal/abi.NoEscape"], unfollowed := true, recurses := true, apart := false, narrowed := true }
def InsnBackUptoSaid : Prop := insnBackUptoRow.holds Try.pinned (OpenSpec.upto insnBackSpec)

/-- 'blackboxlaw20.InsnOnly', WHERE WHAT IT READS IS OF BULK AT MOST 1048576: true; the input reads as it did. -/
def insnOnlyUptoRow : OpenClaim := { program := "ytkakehhoneplhaa", sum := "5b346ae540b0a278ab629012836be5b3ce626058c21cf534cf6570f24483cc64", func := "blackbox/blackboxlaw20.InsnOnly", spec := "insnOnly", inPlace := ["internal/abi.NoEscape"], unfollowed := true, recurses := true, apart := false, narrowed := true }
def InsnOnlyUptoSaid : Prop := insnOnlyUptoRow.holds Try.pinned (OpenSpec.upto insnOnlySpec)

/-- 'blackboxlaw20.InsnWrong', WHERE WHAT IT READS IS OF BULK AT MOST 1048576: true; the input reads as it did. -/
def insnWrongUptoRow : OpenClaim := { program := "ytkakehhoneplhaa", sum := "5b346ae540b0a278ab629012836be5b3ce626058c21cf534cf6570f24483cc64", func := "blackbox/blackboxlaw20.InsnWrong", spec := "insnWrong", inPlace := ["internal/abi.NoEscape"], unfollowed := true, recurses := true, apart := false, narrowed := true }
def InsnWrongUptoSaid : Prop := insnWrongUptoRow.holds Try.pinned (OpenSpec.upto insnWrongSpec)

end Rows
end Go.Proofs.Ytkakehhoneplhaa
