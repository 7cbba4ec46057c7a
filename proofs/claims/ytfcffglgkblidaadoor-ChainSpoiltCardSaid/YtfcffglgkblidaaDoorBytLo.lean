
/-
  '[]byte(s)': a row of its own, stored into, and a string again.
-/
import Derived.Test.YtfcffglgkblidaaDoorBatAr
import Derived.Test.YtfcffglgkblidaaDoorWireTexts
import Derived.StillTailTactics
namespace Go.Proofs.YtfcffglgkblidaaDoor
open Go.RowKit
set_option linter.unusedVariables false
set_option linter.unusedSimpArgs false
namespace BatP
/-- A row that '[]byte(s)' made. -/
def Lo (U : TypeId) (g : Nat) (Y : List UInt8) (W : World) : Prop := W.heap[g]? = some (.cells (bA Y) U (Y.length, Y.length + 1))
theorem Lo.cell {U : TypeId} {g j : Nat} {Y : List UInt8} {W : World} (h : Lo U g Y W) (hj : j < Y.length) : W.cell? ⟨g, j, none⟩ = some (.int .u8 ((Y.getD j 0).toNat : Int)) := Hp.boxH h j (by simp [bA, bcells, List.getD_eq_getElem?_getD, hj])
theorem Lo.free {U : TypeId} {g j : Nat} {Y : List UInt8} {W : World} (h : Lo U g Y W) (hj : j < Y.length) : W.frozen? ⟨g, j, none⟩ = false := by
  unfold Lo at h
  simp [World.frozen?, h]
  omega
theorem Lo.set {U : TypeId} {g j : Nat} {Y : List UInt8} {W : World} (h : Lo U g Y W) (c : UInt8) : Lo U g (Y.set j c) (W.setCell ⟨g, j, none⟩ (.int .u8 (c.toNat : Int))) := by
  have := Hp.setCell_heap W g j (.int .u8 (c.toNat : Int)) _ _ _ h
  unfold Lo
  rw [this, bA_set, List.length_set]
theorem Lo.set' {U : TypeId} {g j : Nat} {Y : List UInt8} {W : World} (h : Lo U g Y W) (c : UInt8) {x : Int} (hx : x = (c.toNat : Int)) : Lo U g (Y.set j c) (W.setCell ⟨g, j, none⟩ (.int .u8 x)) := by subst hx; exact h.set c
theorem bxor8 (a b : UInt8) : bits .xor .u8 (a.toNat : Int) (b.toNat : Int) = ((a ^^^ b).toNat : Int) := by
  show IntKind.u8.wrap ((BitVec.ofInt 8 (a.toNat : Int) ^^^ BitVec.ofInt 8 (b.toNat : Int)).toNat : Int) = _
  have ha := a.toNat_lt
  have hb := b.toNat_lt
  have hc := (a ^^^ b).toNat_lt
  have e : (BitVec.ofInt 8 (a.toNat : Int) ^^^ BitVec.ofInt 8 (b.toNat : Int)).toNat = (a ^^^ b).toNat := by
    simp only [BitVec.ofInt_natCast, BitVec.toNat_xor, BitVec.toNat_ofNat, UInt8.toNat_xor]
    rw [Nat.mod_eq_of_lt ha, Nat.mod_eq_of_lt hb]
  rw [e]
  have hw : ∀ n : Nat, n < 256 → IntKind.u8.wrap (n : Int) = n := by
    intro n hn
    simp [IntKind.wrap, IntKind.bits, IntKind.signed]
    omega
  exact hw _ hc
end BatP
/-- '[]byte(s)'. -/
theorem wpl_bytes_lo {P : Program} {w0 W : World} {H : List Hp.Blk} {D : World → Prop} (sh : Hp.Sh w0 W H D) {ops : Array Oper} {rest : List Oper} {o : Oper} {a : Act} {Q : Exit → Act → World → Prop} (hgd : o.guard = none) (x : Operand) (S T U : TypeId)
    (hop : o.op = Op.convert S T x) (hS : P.underlying S = some .string) (hT : P.underlying T = some (.slice U)) (hU : P.underlying U = some (.int .u8))
    (l : List UInt8) (hx : a.eval x = .string (bstr l))
    (h : ∀ w' g sp cap, w0.heap.size ≤ g → BatP.Lo U g (l ++ sp) w' → Hp.Sh w0 w' H D → l.length ≤ cap → wpList P ops Q rest (a.put o.dst (.slice (some ⟨g, 0, none⟩) l.length cap)) w') :
    wpList P ops Q (o :: rest) a W := by
  refine wpList_plain hgd fun K hK' => ?_
  have hrun := run_bytes_of_string (P := P) W S T U (bstr l) hS hT hU
  unfold Oper.wp
  simp [execOp, hop, hx, hrun, Result.andThen]
  have hsz : (bstr l).size = l.length := bstr_size l
  have hge := grownCap_ge W (bstr l).size 0 U
  have hrow : bytesRow (bstr l) (grownCap W (bstr l).size 0 U) = BatP.bA (l ++ List.replicate (grownCap W (bstr l).size 0 U - l.length) 0) := by
    unfold bytesRow BatP.bA
    apply Array.ext'
    rw [hsz]
    simp [bcells, bstr]
  have hlen : (bytesRow (bstr l) (grownCap W (bstr l).size 0 U)).size = (l ++ List.replicate (grownCap W (bstr l).size 0 U - l.length) (0 : UInt8)).length := by rw [hrow, BatP.bA_size]
  have hk := h (W.drew.alloc (.cells (bytesRow (bstr l) (grownCap W (bstr l).size 0 U)) U ((bytesRow (bstr l) (grownCap W (bstr l).size 0 U)).size, (bytesRow (bstr l) (grownCap W (bstr l).size 0 U)).size + 1))) W.heap.size (List.replicate (grownCap W (bstr l).size 0 U - l.length) 0) (grownCap W (bstr l).size 0 U) sh.below.size ?_ (sh.call ?_) (by rw [← hsz]; exact hge)
  · rw [← hsz] at hk
    exact hK' _ _ hk
  · unfold BatP.Lo
    rw [← hrow, ← hlen]
    show (W.heap.push _)[W.heap.size]? = _
    simp
  · exact ((Below.refl _ W).drew).alloc (Nat.le_refl _) _
theorem Hp.Sh.ofBelow {w0 w : World} (h : Below w0.heap.size w0 w) : Hp.Sh w0 w [] (fun _ => True) := ⟨h, by simp, by simp, by simp, fun _ _ => trivial⟩
theorem at_conv {P : Program} {w : World} {dst : Option Tmp} {ty : TypeId} {pos : String} {af : Array Edge} {g : Option (Nat × Bool)} {a : Act} {Q : Exit → Act → World → Prop} {ops : Array Oper} {rest : List Oper} {x : Operand} (h : wpList P ops Q (⟨dst, .convert 9 51 x, ty, pos, af, g⟩ :: rest) a w) : wpList P ops Q (⟨dst, .convert 9 51 x, ty, pos, af, g⟩ :: rest) a w := h
theorem BatP.getD_left {a b : List UInt8} {i : Nat} (h : i < a.length) : (a ++ b).getD i 0 = a.getD i 0 := by
  rw [List.getD_eq_getElem?_getD, List.getElem?_append_left h, ← List.getD_eq_getElem?_getD]
theorem BatP.bor8 (a b : UInt8) : bits .or .u8 (a.toNat : Int) (b.toNat : Int) = ((a ||| b).toNat : Int) := by
  show IntKind.u8.wrap ((BitVec.ofInt 8 (a.toNat : Int) ||| BitVec.ofInt 8 (b.toNat : Int)).toNat : Int) = _
  have ha := a.toNat_lt
  have hb := b.toNat_lt
  have hc := (a ||| b).toNat_lt
  have e : (BitVec.ofInt 8 (a.toNat : Int) ||| BitVec.ofInt 8 (b.toNat : Int)).toNat = (a ||| b).toNat := by
    simp only [BitVec.ofInt_natCast, BitVec.toNat_or, BitVec.toNat_ofNat, UInt8.toNat_or]
    rw [Nat.mod_eq_of_lt ha, Nat.mod_eq_of_lt hb]
  rw [e]
  have hw : ∀ n : Nat, n < 256 → IntKind.u8.wrap (n : Int) = n := by
    intro n hn
    simp [IntKind.wrap, IntKind.bits, IntKind.signed]
    omega
  exact hw _ hc
end Go.Proofs.YtfcffglgkblidaaDoor
