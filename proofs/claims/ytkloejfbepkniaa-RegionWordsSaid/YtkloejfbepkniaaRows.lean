/-
  No cell of these rows narrows 'for every input' (looked for: loops, veiled, ifaces, maps, wideKeys, modest, calm, conditions, laid).
  DERIVED. THE GIVEN ROWS OF THIS SEAT. 4 by the template 'for every input the law returns true; each argument reads behind the call as it read before'; 0 by the template 'total and deterministic' (their statements: YtkloejfbepkniaaTotals.lean).
  GIVEN WITH THE SEED: the statements are not yours to turn. If you find one false, say at which input.
  Laid BY PROGRAM, IN A SANDBOX (cutbox-rows.mjs): the forced cells as the released guide's own fill.sh prints them over the translation 413db17429caa842… (all of the seat's roots in one cut). By AI agents, Wed Nov 11 2026. No macro, syntax, notation, axiom, sorry.
-/
import Derived.Test.YtkloejfbepkniaaChecked
import GoSem.Claim
import GoSem.ClaimJoined
import GoSem.ClaimMapViews
import Derived.JoinedTies
import Derived.KernelRfl
namespace Go.Proofs.Ytkloejfbepkniaa
/- THE CELL 'sum', in the pinned program and in every row, IS THE sha256 OF THE DUMP (.gsa) THAT YtkloejfbepkniaaProg.lean LOADS. Nothing in Lean hashes anything: it is a label: what it is worth is what the hold of that sum in a sandbox is worth. -/
noncomputable def Try.pinned : Pinned := { name := "ytkloejfbepkniaa", sum := "413db17429caa842663a2b43be1ef651a388eaba4b3499cb4acd9de70d5be7d7", checked := Try.checked }
namespace Rows
def none {H : Type} : Left H := { results := [], args := [] }

/-- 'blackboxlaw19.RegionDoes': WHATEVER THE INPUT: true; the input reads as it did. -/
def regionDoesSpec : ChangeSpec := { name := "regionDoes", fn := fun _ => fun
  | [d1, d2] => { results := [.lit (.bool true)], args := [d1, d2] }
  | _ => none }
def regionDoesRow : OpenClaim := { program := "ytkloejfbepkniaa", sum := "413db17429caa842663a2b43be1ef651a388eaba4b3499cb4acd9de70d5be7d7", func := "blackbox/blackboxlaw19.RegionDoes", spec := "regionDoes", apart := false }
def RegionDoesSaid : Prop := regionDoesRow.holds Try.pinned (OpenSpec.ofChange regionDoesSpec)

/-- ITS FALSE NEIGHBOUR: 'it returns false'. Refute it at one input. -/
def regionDoesWrong : ChangeSpec := { name := "regionDoes", fn := fun _ => fun
  | [d1, d2] => { results := [.lit (.bool false)], args := [d1, d2] }
  | _ => none }
def RegionDoesWrongFalsely : Prop := regionDoesRow.holds Try.pinned (OpenSpec.ofChange regionDoesWrong)

/-- 'blackboxlaw19.RegionKeeps': WHATEVER THE INPUT: true; the input reads as it did. -/
def regionKeepsSpec : ChangeSpec := { name := "regionKeeps", fn := fun _ => fun
  | [d1, d2, d3, d4, d5] => { results := [.lit (.bool true)], args := [d1, d2, d3, d4, d5] }
  | _ => none }
def regionKeepsRow : OpenClaim := { program := "ytkloejfbepkniaa", sum := "413db17429caa842663a2b43be1ef651a388eaba4b3499cb4acd9de70d5be7d7", func := "blackbox/blackboxlaw19.RegionKeeps", spec := "regionKeeps", apart := false }
def RegionKeepsSaid : Prop := regionKeepsRow.holds Try.pinned (OpenSpec.ofChange regionKeepsSpec)

/-- ITS FALSE NEIGHBOUR: 'it returns false'. Refute it at one input. -/
def regionKeepsWrong : ChangeSpec := { name := "regionKeeps", fn := fun _ => fun
  | [d1, d2, d3, d4, d5] => { results := [.lit (.bool false)], args := [d1, d2, d3, d4, d5] }
  | _ => none }
def RegionKeepsWrongFalsely : Prop := regionKeepsRow.holds Try.pinned (OpenSpec.ofChange regionKeepsWrong)

/-- 'blackboxlaw19.RegionWords': WHATEVER THE INPUT: true; the input reads as it did. -/
def regionWordsSpec : ChangeSpec := { name := "regionWords", fn := fun _ => fun
  | [d1, d2, d3, d4, d5, d6, d7] => { results := [.lit (.bool true)], args := [d1, d2, d3, d4, d5, d6, d7] }
  | _ => none }
def regionWordsRow : OpenClaim := { program := "ytkloejfbepkniaa", sum := "413db17429caa842663a2b43be1ef651a388eaba4b3499cb4acd9de70d5be7d7", func := "blackbox/blackboxlaw19.RegionWords", spec := "regionWords", apart := false }
def RegionWordsSaid : Prop := regionWordsRow.holds Try.pinned (OpenSpec.ofChange regionWordsSpec)

/-- ITS FALSE NEIGHBOUR: 'it returns false'. Refute it at one input. -/
def regionWordsWrong : ChangeSpec := { name := "regionWords", fn := fun _ => fun
  | [d1, d2, d3, d4, d5, d6, d7] => { results := [.lit (.bool false)], args := [d1, d2, d3, d4, d5, d6, d7] }
  | _ => none }
def RegionWordsWrongFalsely : Prop := regionWordsRow.holds Try.pinned (OpenSpec.ofChange regionWordsWrong)

/-- 'blackboxlaw19.RegionApart': WHATEVER THE INPUT: true; the input reads as it did. -/
def regionApartSpec : ChangeSpec := { name := "regionApart", fn := fun _ => fun
  | [d1, d2, d3, d4] => { results := [.lit (.bool true)], args := [d1, d2, d3, d4] }
  | _ => none }
def regionApartRow : OpenClaim := { program := "ytkloejfbepkniaa", sum := "413db17429caa842663a2b43be1ef651a388eaba4b3499cb4acd9de70d5be7d7", func := "blackbox/blackboxlaw19.RegionApart", spec := "regionApart", apart := false }
def RegionApartSaid : Prop := regionApartRow.holds Try.pinned (OpenSpec.ofChange regionApartSpec)

/-- ITS FALSE NEIGHBOUR: 'it returns false'. Refute it at one input. -/
def regionApartWrong : ChangeSpec := { name := "regionApart", fn := fun _ => fun
  | [d1, d2, d3, d4] => { results := [.lit (.bool false)], args := [d1, d2, d3, d4] }
  | _ => none }
def RegionApartWrongFalsely : Prop := regionApartRow.holds Try.pinned (OpenSpec.ofChange regionApartWrong)

/- THE SECOND FORM. 'bulk': how many values and letters a reading holds, each counted each time it is reached (what is shared counts as often as it is met; a slice's spare places count too). A statement '..UptoSaid' is the law's where the arguments, and the package variables that the reading takes, are together of bulk at most 1048576: NARROWER than '..Said'. Prove '..Said' where nothing that the law and all that it calls make is longer than what came in: it says more and counts as full. Else prove '..UptoSaid'. A law counts once. -/
mutual
def uptoBulk {H : Type} : DataW H → Nat
  | .lit (.string bytes) => bytes.length + 1
  | .lit _ => 1
  | .nil => 1
  | .ptr d => uptoBulk d + 1
  | .slice elems spare => uptoBulkAll elems + uptoBulkAll spare + 1
  | .agg parts => uptoBulkAll parts + 1
  | .iface _ d => uptoBulk d + 1
  | .map entries => uptoBulkEntries entries + 1
  | .held _ => 1
def uptoBulkAll {H : Type} : List (DataW H) → Nat
  | [] => 0
  | d :: r => uptoBulk d + uptoBulkAll r
def uptoBulkEntries {H : Type} : List (Lit × DataW H) → Nat
  | [] => 0
  | x :: r => uptoBulkEntry x + uptoBulkEntries r
def uptoBulkEntry {H : Type} : Lit × DataW H → Nat
  | (.string bytes, d) => bytes.length + uptoBulk d + 1
  | (_, d) => uptoBulk d + 1
 end
def uptoSmall : (H : Type) → List (DataW H) → Bool := fun _ ds => decide (uptoBulkAll ds ≤ 1048576)
def OpenSpec.upto (s : _root_.Go.ChangeSpec) : _root_.Go.OpenSpec := { _root_.Go.OpenSpec.ofChange s with cond := some uptoSmall }

/-- 'blackboxlaw19.RegionDoes', WHERE WHAT IT READS IS OF BULK AT MOST 1048576: true; the input reads as it did. -/
def regionDoesUptoRow : OpenClaim := { program := "ytkloejfbepkniaa", sum := "413db17429caa842663a2b43be1ef651a388eaba4b3499cb4acd9de70d5be7d7", func := "blackbox/blackboxlaw19.RegionDoes", spec := "regionDoes", apart := false, narrowed := true }
def RegionDoesUptoSaid : Prop := regionDoesUptoRow.holds Try.pinned (OpenSpec.upto regionDoesSpec)

/-- 'blackboxlaw19.RegionKeeps', WHERE WHAT IT READS IS OF BULK AT MOST 1048576: true; the input reads as it did. -/
def regionKeepsUptoRow : OpenClaim := { program := "ytkloejfbepkniaa", sum := "413db17429caa842663a2b43be1ef651a388eaba4b3499cb4acd9de70d5be7d7", func := "blackbox/blackboxlaw19.RegionKeeps", spec := "regionKeeps", apart := false, narrowed := true }
def RegionKeepsUptoSaid : Prop := regionKeepsUptoRow.holds Try.pinned (OpenSpec.upto regionKeepsSpec)

/-- 'blackboxlaw19.RegionWords', WHERE WHAT IT READS IS OF BULK AT MOST 1048576: true; the input reads as it did. -/
def regionWordsUptoRow : OpenClaim := { program := "ytkloejfbepkniaa", sum := "413db17429caa842663a2b43be1ef651a388eaba4b3499cb4acd9de70d5be7d7", func := "blackbox/blackboxlaw19.RegionWords", spec := "regionWords", apart := false, narrowed := true }
def RegionWordsUptoSaid : Prop := regionWordsUptoRow.holds Try.pinned (OpenSpec.upto regionWordsSpec)

/-- 'blackboxlaw19.RegionApart', WHERE WHAT IT READS IS OF BULK AT MOST 1048576: true; the input reads as it did. -/
def regionApartUptoRow : OpenClaim := { program := "ytkloejfbepkniaa", sum := "413db17429caa842663a2b43be1ef651a388eaba4b3499cb4acd9de70d5be7d7", func := "blackbox/blackboxlaw19.RegionApart", spec := "regionApart", apart := false, narrowed := true }
def RegionApartUptoSaid : Prop := regionApartUptoRow.holds Try.pinned (OpenSpec.upto regionApartSpec)

end Rows
end Go.Proofs.Ytkloejfbepkniaa
