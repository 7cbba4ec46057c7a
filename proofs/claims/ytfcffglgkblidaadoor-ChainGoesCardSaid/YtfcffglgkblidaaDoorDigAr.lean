
/-
  Arrays of words and of bytes as blocks of the walk's own, told by their lists; a store at a variable place; a whole store; bytes of a text.
-/
import Derived.Test.YtfcffglgkblidaaDoorBytes
import Derived.Test.YtfcffglgkblidaaDoorDig2
import Derived.Laws.Rows
namespace Go.Proofs.YtfcffglgkblidaaDoor
open Go.RowKit
set_option linter.unusedVariables false
set_option linter.unusedSimpArgs false

namespace DigP
def wA (l : List Wd) : Array Value := (wds l).toArray
def bA (l : List UInt8) : Array Value := (bcells l).toArray
theorem ones_wds (l : List Wd) : Hp.ones (wds l) = true := by
  induction l with
  | nil => rfl
  | cons x r ih => show (Value.oneCell' (.int .u32 _) && Hp.ones (wds r)) = true; rw [ih]; rfl
theorem ones_bcells (l : List UInt8) : Hp.ones (bcells l) = true := by
  induction l with
  | nil => rfl
  | cons x r ih => show (Value.oneCell' (.int .u8 _) && Hp.ones (bcells r)) = true; rw [ih]; rfl
theorem wA_cells (l : List Wd) : (Value.agg (wA l)).cells = wA l := rfl
theorem bA_cells (l : List UInt8) : (Value.agg (bA l)).cells = bA l := rfl
theorem wA_size (l : List Wd) : (wA l).size = l.length := by simp [wA, wds]
theorem bA_size (l : List UInt8) : (bA l).size = l.length := by simp [bA, bcells]
theorem wA_set (l : List Wd) (k : Nat) (x : Wd) : (wA l).setIfInBounds k (.int .u32 (x.toNat : Int)) = wA (l.set k x) := by
  simp [wA, wds, List.map_set]
theorem bA_set (l : List UInt8) (k : Nat) (x : UInt8) : (bA l).setIfInBounds k (.int .u8 (x.toNat : Int)) = bA (l.set k x) := by
  simp [bA, bcells, List.map_set]
theorem wA_get {l : List Wd} {k : Nat} (h : k < l.length) : (wA l)[k]? = some (.int .u32 ((l.getD k 0).toNat : Int)) := by
  have := wds_get h
  simpa [wA] using this
theorem bA_get {l : List UInt8} {k : Nat} (h : k < l.length) : (bA l)[k]? = some (.int .u8 ((l.getD k 0).toNat : Int)) := by
  simp [bA, bcells, List.getD_eq_getElem?_getD, h]
theorem bc_get {l : List UInt8} {k : Nat} (h : k < l.length) : (bcells l)[k]? = some (.int .u8 ((l.getD k 0).toNat : Int)) := by
  simp [bcells, List.getD_eq_getElem?_getD, h]
theorem bA_data (l : List UInt8) : (bA l).toList = bcells l := rfl
theorem wA_data (l : List Wd) : (wA l).toList = wds l := rfl
theorem bA_inj {l m : List UInt8} (h : bA l = bA m) : l = m := by
  have : (bA l).toList = (bA m).toList := by rw [h]
  rw [bA_data, bA_data] at this
  unfold bcells at this
  have key : ∀ (l m : List UInt8), l.map (fun c => Value.int .u8 (c.toNat : Int)) = m.map (fun c => Value.int .u8 (c.toNat : Int)) → l = m := by
    intro l
    induction l with
    | nil => intro m h; cases m with
      | nil => rfl
      | cons => cases h
    | cons c r ih => intro m h; cases m with
      | nil => cases h
      | cons d s =>
        simp only [List.map_cons, List.cons.injEq, Value.int.injEq, true_and] at h
        have : c = d := UInt8.toNat_inj.1 (by omega)
        rw [this, ih s h.2]
  exact key l m this
end DigP

namespace Hp
section
variable {P : Program} {w0 w : World} {H : List Blk} {D : World → Prop} {dst : Option Tmp} {ty : TypeId} {pos : String} {af : Array Edge} {g : Option (Nat × Bool)} {a : Act} {K : Act → World → Prop} {Q : Exit → Act → World → Prop}
theorem putCells_all (c : Array Value) (vs : List Value) (h : vs.length = c.size) : putCells c 0 vs = vs.toArray := by
  rw [putCells_splice vs 0 c (by omega)]
  apply Array.ext'
  simp [splice, h]
/-- A whole array is stored into a block. -/
theorem wp_store_all {T : TypeId} {x y : Operand} (i : Nat) {b : Nat} {c c' : Array Value} {t : TypeId} (sh : Sh w0 w H D) (hx : a.eval x = .pointer (some ⟨b, 0, none⟩)) (hi : H[i]? = some (b, c, t)) (hv : a.eval y = .agg c')
    (hs : c'.size = c.size) (hsz : (P.info? T).map (·.size) = some c.size) (h1 : ones c'.toList = true)
    (k : ∀ w', Sh w0 w' (H.set i (b, c', t)) D → K (a.put dst undef) w') :
    Oper.wp P ⟨dst, .store T x y, ty, pos, af, g⟩ a w K Q := by
  refine wp_store i (n := c.size) (v := .agg c') sh hx hi hv hs hsz (by omega) h1 (fun w' sh' => k w' ?_)
  rw [show (Value.agg c').cells = c' from rfl, putCells_all c _ (by simpa using hs)] at sh'
  simpa using sh'
/-- A whole block, loaded. -/
theorem wpl_load_all {ops : Array Oper} {rest : List Oper} {T : TypeId} {x : Operand} (i : Nat) {b : Nat} {c : Array Value} {t : TypeId} {d : TypeDesc} (sh : Sh w0 w H D) (hg : g = none) (hx : a.eval x = .pointer (some ⟨b, 0, none⟩)) (hi : H[i]? = some (b, c, t))
    (hu : P.underlying T = some d) (hd : (match d with | .struct _ | .array _ _ => true | _ => false) = true) (hs : (P.info? T).map (·.size) = some c.size)
    (k : wpList P ops Q rest (a.put dst (.agg c)) w) : wpList P ops Q (⟨dst, .load T x, ty, pos, af, g⟩ :: rest) a w :=
  wpList_load_row hg T x rfl b hx t c (0, 0) d (sh.own _ (List.mem_of_getElem? hi)) hu hd hs k
/-- At a load of a type. -/
theorem atl_load (T : TypeId) {ops : Array Oper} {rest : List Oper} {x : Operand} (h : wpList P ops Q (⟨dst, .load T x, ty, pos, af, g⟩ :: rest) a w) : wpList P ops Q (⟨dst, .load T x, ty, pos, af, g⟩ :: rest) a w := h
/-- '[]byte(s)'. -/
theorem wpl_bytes {ops : Array Oper} {rest : List Oper} {x : Operand} {S T U : TypeId} (hS : P.underlying S = some .string) (hT : P.underlying T = some (.slice U)) (hU : P.underlying U = some (.int .u8)) (sh : Sh w0 w H D)
    (l : List UInt8) (hx : a.eval x = .string (bstr l)) (hw : g = none)
    (k : ∀ b cap w', Sh w0 w' H (fun W => RdV W (some ⟨b, 0, none⟩) (bcells l) ∧ D W) → l.length ≤ cap → wpList P ops Q rest (a.put dst (.slice (some ⟨b, 0, none⟩) l.length cap)) w') :
    wpList P ops Q (⟨dst, .convert S T x, ty, pos, af, g⟩ :: rest) a w := by
  subst hw
  refine wpList_bytes_of (W := w) rfl x S T U rfl hS hT hU (bstr l) hx (fun w' cap h1 _ h3 h4 _ => ?_)
  have hs : (bstr l).size = l.length := bstr_size l
  rw [hs] at h4 ⊢
  refine k _ _ _ (gain sh h3 (fun p hp => by cases hp; exact Nat.le_refl _) (fun _ => ⟨_, rfl, fun i v hv => ?_⟩)) h4
  rw [add_head]
  have hi : i < l.length := by
    have := (List.getElem?_eq_some_iff.1 hv).1
    simpa [bcells] using this
  rw [h1 i (by rw [hs]; exact hi)]
  have : (bcells l)[i]? = some (.int .u8 (((bstr l)[i]'(by rw [hs]; exact hi)).toNat : Int)) := by
    simp [bcells, hi]; rfl
  rw [this] at hv
  exact hv
/-- A cell of an own block at a variable place. -/
theorem Sh.at {i b : Nat} {c : Array Value} {t : TypeId} (h : Sh w0 w H D) (hi : H[i]? = some (b, c, t)) {j : Nat} {v : Value} (hv : c[j]? = some v) : w.cell? ⟨b, j, none⟩ = some v := boxH (h.own _ (List.mem_of_getElem? hi)) j hv
end
end Hp
end Go.Proofs.YtfcffglgkblidaaDoor
