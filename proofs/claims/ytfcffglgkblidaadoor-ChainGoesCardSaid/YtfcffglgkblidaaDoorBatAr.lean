
/-
  A batch as a block of the walk's own, told by its parts; stores into it.
-/
import Derived.Test.YtfcffglgkblidaaDoorBytes
import Derived.Test.YtfcffglgkblidaaDoorSoft
import Derived.Test.YtfcffglgkblidaaDoorBatPlain
import Derived.Laws.Rows
import Derived.Laws.CopyRow
import Derived.Lib.Strings
import Derived.Deep.MidRow
namespace Go.Proofs.YtfcffglgkblidaaDoor
open Go.RowKit
set_option linter.unusedVariables false
set_option linter.unusedSimpArgs false
namespace BatP
def bA (l : List UInt8) : Array Value := (bcells l).toArray
theorem ones_bcells (l : List UInt8) : Hp.ones (bcells l) = true := by
  induction l with
  | nil => rfl
  | cons x r ih => show (Value.oneCell' (.int .u8 _) && Hp.ones (bcells r)) = true; rw [ih]; rfl
theorem bA_size (l : List UInt8) : (bA l).size = l.length := by simp [bA, bcells]
theorem bA_data (l : List UInt8) : (bA l).toList = bcells l := rfl
theorem bA_set (l : List UInt8) (k : Nat) (x : UInt8) : (bA l).setIfInBounds k (.int .u8 (x.toNat : Int)) = bA (l.set k x) := by
  simp [bA, bcells, List.map_set]
/-- A batch, as its cells. -/
def btA (f : Int) (v : Value) (p : List UInt8) : Array Value := (Value.int .u64 f :: v :: bcells p).toArray
theorem btA_size (f : Int) (v : Value) (p : List UInt8) : (btA f v p).size = p.length + 2 := by simp [btA, bcells]
theorem btA_data (f : Int) (v : Value) (p : List UInt8) : (btA f v p).toList = Value.int .u64 f :: v :: bcells p := rfl
theorem cellsAt_bt (w : World) (b : Nat) (f : Int) (v : Value) (p : List UInt8) : Hp.CellsAt w b 0 (btA f v p).toList = (w.cell? ⟨b, 0, none⟩ = some (.int .u64 f) ∧ w.cell? ⟨b, 1, none⟩ = some v ∧ Hp.CellsAt w b 2 (bcells p)) := rfl
theorem ones_bt {f : Int} {v : Value} {p : List UInt8} (h : v.oneCell' = true) : Hp.ones (btA f v p).toList = true := by
  show (Value.oneCell' (.int .u64 f) && (v.oneCell' && Hp.ones (bcells p))) = true
  rw [h, ones_bcells]; rfl
theorem put_len : ∀ (vs : List Value) (c : Array Value) (o : Nat), (Hp.putCells c o vs).size = c.size
  | [], c, o => rfl
  | v :: r, c, o => by rw [Hp.putCells, put_len r, Array.size_setIfInBounds]
theorem put_prev {f : Int} {v : Value} : ∀ (p q h : List UInt8), q.length = p.length → Hp.putCells ((Value.int .u64 f :: v :: (bcells h ++ bcells p)).toArray) (2 + h.length) (bcells q) = (Value.int .u64 f :: v :: (bcells h ++ bcells q)).toArray
  | [], [], h, _ => rfl
  | [], _ :: _, _, hh => by cases hh
  | _ :: _, [], _, hh => by cases hh
  | x :: p, y :: q, h, hh => by
    have hl : q.length = p.length := by simpa using hh
    have ih := put_prev (f := f) (v := v) p q (h ++ [y]) hl
    have e1 : bcells (y :: q) = Value.int .u8 (y.toNat : Int) :: bcells q := rfl
    have e2 : bcells (x :: p) = Value.int .u8 (x.toNat : Int) :: bcells p := rfl
    have e3 : bcells (h ++ [y]) = bcells h ++ [Value.int .u8 (y.toNat : Int)] := bcells_snoc h y
    rw [e3, List.length_append, List.length_singleton] at ih
    rw [e1, e2, Hp.putCells]
    have e4 : (Value.int .u64 f :: v :: (bcells h ++ Value.int .u8 (x.toNat : Int) :: bcells p)).toArray.setIfInBounds (2 + h.length) (Value.int .u8 (y.toNat : Int)) = (Value.int .u64 f :: v :: (bcells h ++ [Value.int .u8 (y.toNat : Int)] ++ bcells p)).toArray := by
      apply Array.ext'
      simp only [Array.toList_setIfInBounds]
      rw [show 2 + h.length = (h.length + 1) + 1 by omega, List.set_cons_succ, List.set_cons_succ, List.set_append_right _ _ (by rw [bcells_length]; omega), bcells_length, Nat.sub_self, List.set_cons_zero, List.append_assoc, List.singleton_append]
    rw [e4, show 2 + h.length + 1 = 2 + (h.length + 1) by omega, ih]
    simp
end BatP

namespace Hp
section
variable {P : Program} {w0 w : World} {H : List Blk} {D : World → Prop} {dst : Option Tmp} {ty : TypeId} {pos : String} {af : Array Edge} {gd : Option (Nat × Bool)} {a : Act} {K : Act → World → Prop} {Q : Exit → Act → World → Prop}
theorem bst_first {T : TypeId} {x y : Operand} (i : Nat) {b : Nat} {f g : Int} {v : Value} {p : List UInt8} {t : TypeId} (sh : Sh w0 w H D) (hx : a.eval x = .pointer (some ⟨b, 0, none⟩)) (hi : H[i]? = some (b, BatP.btA f v p, t)) (hv : a.eval y = .int .u64 g)
    (hsz : (P.info? T).map (·.size) = some 1) (k : ∀ w', Sh w0 w' (H.set i (b, BatP.btA g v p, t)) D → K (a.put dst undef) w') :
    Oper.wp P ⟨dst, .store T x y, ty, pos, af, gd⟩ a w K Q :=
  wp_store i sh hx hi hv rfl hsz (by rw [BatP.btA_size]; show 0 + 1 ≤ _; omega) rfl (fun w' sh' => k w' sh')
theorem bst_evs {T : TypeId} {x y : Operand} (i : Nat) {b : Nat} {f : Int} {v : Value} {s : Option Addr} {n c : Nat} {p : List UInt8} {t : TypeId} (sh : Sh w0 w H D) (hx : a.eval x = .pointer (some ⟨b, 1, none⟩)) (hi : H[i]? = some (b, BatP.btA f v p, t)) (hv : a.eval y = .slice s n c)
    (hsz : (P.info? T).map (·.size) = some 1) (k : ∀ w', Sh w0 w' (H.set i (b, BatP.btA f (.slice s n c) p, t)) D → K (a.put dst undef) w') :
    Oper.wp P ⟨dst, .store T x y, ty, pos, af, gd⟩ a w K Q :=
  wp_store i sh hx hi hv rfl hsz (by rw [BatP.btA_size]; show 1 + 1 ≤ _; omega) rfl (fun w' sh' => k w' sh')
theorem bst_prev {T : TypeId} {x y : Operand} (i : Nat) {b : Nat} {f : Int} {v : Value} {p q : List UInt8} {t : TypeId} (sh : Sh w0 w H D) (hx : a.eval x = .pointer (some ⟨b, 2, none⟩)) (hi : H[i]? = some (b, BatP.btA f v p, t)) (hv : a.eval y = .agg (BatP.bA q))
    (hq : q.length = p.length) (hsz : (P.info? T).map (·.size) = some p.length) (k : ∀ w', Sh w0 w' (H.set i (b, BatP.btA f v q, t)) D → K (a.put dst undef) w') :
    Oper.wp P ⟨dst, .store T x y, ty, pos, af, gd⟩ a w K Q := by
  refine wp_store i (n := p.length) sh hx hi hv (by show (BatP.bA q).size = _; rw [BatP.bA_size, hq]) hsz (by rw [BatP.btA_size]; omega) (BatP.ones_bcells q) (fun w' sh' => k w' ?_)
  have e := BatP.put_prev (f := f) (v := v) p q [] hq
  have e' : putCells (BatP.btA f v p) 2 (Value.agg (BatP.bA q)).cells.toList = BatP.btA f v q := e
  rw [e'] at sh'
  exact sh'
theorem bst_all {T : TypeId} {x y : Operand} (i : Nat) {b : Nat} {f g : Int} {v : Value} {s : Option Addr} {n c : Nat} {p q : List UInt8} {t : TypeId} (sh : Sh w0 w H D) (hx : a.eval x = .pointer (some ⟨b, 0, none⟩)) (hi : H[i]? = some (b, BatP.btA f v p, t)) (hv : a.eval y = .agg (BatP.btA g (.slice s n c) q))
    (hq : q.length = p.length) (hsz : (P.info? T).map (·.size) = some (p.length + 2)) (k : ∀ w', Sh w0 w' (H.set i (b, BatP.btA g (.slice s n c) q, t)) D → K (a.put dst undef) w') :
    Oper.wp P ⟨dst, .store T x y, ty, pos, af, gd⟩ a w K Q := by
  refine wp_store i (n := p.length + 2) sh hx hi hv (by show (BatP.btA g _ q).size = _; rw [BatP.btA_size, hq]) hsz (by rw [BatP.btA_size]; omega) (BatP.ones_bt rfl) (fun w' sh' => k w' ?_)
  have e : putCells (BatP.btA f v p) 0 (Value.agg (BatP.btA g (.slice s n c) q)).cells.toList = BatP.btA g (.slice s n c) q := BatP.put_prev (f := g) (v := .slice s n c) p q [] hq
  rw [e] at sh'
  exact sh'
theorem put_arr (p q : List UInt8) (h : q.length = p.length) : putCells (BatP.bA p) 0 (bcells q) = BatP.bA q := by
  have key : ∀ (p q e : List UInt8), q.length = p.length → putCells ((bcells e ++ bcells p).toArray) e.length (bcells q) = (bcells e ++ bcells q).toArray := by
    intro p
    induction p with
    | nil => intro q e h; cases q with
      | nil => rfl
      | cons => cases h
    | cons x p ih => intro q e h; cases q with
      | nil => cases h
      | cons y q =>
        have ih' := ih q (e ++ [y]) (by simpa using h)
        have e1 : bcells (y :: q) = Value.int .u8 (y.toNat : Int) :: bcells q := rfl
        have e2 : bcells (x :: p) = Value.int .u8 (x.toNat : Int) :: bcells p := rfl
        have e3 : bcells (e ++ [y]) = bcells e ++ [Value.int .u8 (y.toNat : Int)] := bcells_snoc e y
        rw [e3, List.length_append, List.length_singleton] at ih'
        rw [e1, e2, putCells]
        have e4 : (bcells e ++ Value.int .u8 (x.toNat : Int) :: bcells p).toArray.setIfInBounds e.length (Value.int .u8 (y.toNat : Int)) = (bcells e ++ [Value.int .u8 (y.toNat : Int)] ++ bcells p).toArray := by
          apply Array.ext'
          simp only [Array.toList_setIfInBounds]
          rw [List.set_append_right _ _ (by rw [bcells_length]; omega), bcells_length, Nat.sub_self, List.set_cons_zero, List.append_assoc, List.singleton_append]
        rw [e4, ih']
        simp
  exact key p q [] h
theorem bst_arr {T : TypeId} {x y : Operand} (i : Nat) {b : Nat} {p q : List UInt8} {t : TypeId} (sh : Sh w0 w H D) (hx : a.eval x = .pointer (some ⟨b, 0, none⟩)) (hi : H[i]? = some (b, BatP.bA p, t)) (hv : a.eval y = .agg (BatP.bA q))
    (hq : q.length = p.length) (hsz : (P.info? T).map (·.size) = some p.length) (k : ∀ w', Sh w0 w' (H.set i (b, BatP.bA q, t)) D → K (a.put dst undef) w') :
    Oper.wp P ⟨dst, .store T x y, ty, pos, af, gd⟩ a w K Q := by
  refine wp_store i (n := p.length) sh hx hi hv (by show (BatP.bA q).size = _; rw [BatP.bA_size, hq]) hsz (by rw [BatP.bA_size]; omega) (BatP.ones_bcells q) (fun w' sh' => k w' ?_)
  have e : putCells (BatP.bA p) 0 (Value.agg (BatP.bA q)).cells.toList = BatP.bA q := put_arr p q hq
  rw [e] at sh'
  exact sh'
/-- The facts of the blocks, opened; a batch's too. -/
theorem Sh.fxb {w0 w : World} {H : List Blk} {D : World → Prop} {F : Prop} (h : Sh w0 w H D) (e : Facts w H = F := by ((try simp only [Hp.Facts, Hp.CellsAt, BatP.cellsAt_bt, Nat.reduceAdd, Hp.c1, Hp.c2]); (try rfl))) : F := e ▸ h.facts
/-- At a store of a type. -/
theorem at_st (T : TypeId) {ops : Array Oper} {rest : List Oper} {x y : Operand} (h : Oper.wp P ⟨dst, .store T x y, ty, pos, af, gd⟩ a w (wpList P ops Q rest) Q) (hw : Region.wanted ⟨dst, .store T x y, ty, pos, af, gd⟩ (yielded ops a.tmps) = true) : wpList P ops Q (⟨dst, .store T x y, ty, pos, af, gd⟩ :: rest) a w := list_of hw h
/-- A block whole, loaded. -/
theorem bld_all {ops : Array Oper} {rest : List Oper} {T : TypeId} {x : Operand} (i : Nat) {b : Nat} {c : Array Value} {t : TypeId} {d : TypeDesc} (sh : Sh w0 w H D) (hg : gd = none) (hx : a.eval x = .pointer (some ⟨b, 0, none⟩)) (hi : H[i]? = some (b, c, t))
    (hu : P.underlying T = some d) (hd : (match d with | .struct _ | .array _ _ => true | _ => false) = true) (hs : (P.info? T).map (·.size) = some c.size)
    (k : wpList P ops Q rest (a.put dst (.agg c)) w) : wpList P ops Q (⟨dst, .load T x, ty, pos, af, gd⟩ :: rest) a w :=
  wpList_load_row hg T x rfl b hx t c (0, 0) d (sh.own _ (List.mem_of_getElem? hi)) hu hd hs k
/-- At a load of a type. -/
theorem at_ld (T : TypeId) {ops : Array Oper} {rest : List Oper} {x : Operand} (h : wpList P ops Q (⟨dst, .load T x, ty, pos, af, gd⟩ :: rest) a w) : wpList P ops Q (⟨dst, .load T x, ty, pos, af, gd⟩ :: rest) a w := h
theorem bexec_load {T : TypeId} {x : Operand} (i : Nat) {b : Nat} {c : Array Value} {t : TypeId} {ev : Operand → Value} (sh : Sh w0 w H D)
    (hx : ev x = .pointer (some ⟨b, 0, none⟩)) (hi : H[i]? = some (b, c, t)) (hu : (P.underlying T).map (fun d => d.isRow) = some true) (hs : (P.info? T).map (·.size) = some c.size) :
    (execOp ev ⟨dst, .load T x, ty, pos, af, gd⟩).run P w = .ok (.value (.agg c)) w := by
  have h := sh.load (P := P) (T := T) i hi hu hs
  simp [execOp, hx, Instr.loadAt, Instr.sureAddr, h, Result.andThen]
theorem bld_g {ops : Array Oper} {rest : List Oper} {T : TypeId} {x : Operand} (i : Nat) {b : Nat} {c : Array Value} {t : TypeId} (sh : Sh w0 w H D)
    (hw : Region.wanted ⟨dst, .load T x, ty, pos, af, gd⟩ (yielded ops a.tmps) = true) (hx : a.eval x = .pointer (some ⟨b, 0, none⟩)) (hi : H[i]? = some (b, c, t)) (hu : (P.underlying T).map (fun d => d.isRow) = some true) (hs : (P.info? T).map (·.size) = some c.size)
    (k : wpList P ops Q rest (a.put dst (.agg c)) w) : wpList P ops Q (⟨dst, .load T x, ty, pos, af, gd⟩ :: rest) a w := by
  refine list_of hw ?_
  have h := bexec_load (P := P) (dst := dst) (ty := ty) (pos := pos) (af := af) (gd := gd) (ev := a.eval) (x := x) (T := T) i sh hx hi hu hs
  unfold Oper.wp
  rw [h]
  exact k
/-- At an append to nil. -/
theorem at_app_c {v : Value} {ops : Array Oper} {rest : List Oper} {x : Operand} {ts : Array TypeId} (hw : Region.wanted ⟨dst, .call { callee := .builtin .append, args := #[.const v, x], argTypes := ts }, ty, pos, af, gd⟩ (yielded ops a.tmps) = true)
    (h : Oper.wp P ⟨dst, .call { callee := .builtin .append, args := #[.const v, x], argTypes := ts }, ty, pos, af, gd⟩ a w (wpList P ops Q rest) Q) : wpList P ops Q (⟨dst, .call { callee := .builtin .append, args := #[.const v, x], argTypes := ts }, ty, pos, af, gd⟩ :: rest) a w := list_of hw h
/-- The sum ahead, as bytes. -/
theorem Sh.prev_rdv {i b : Nat} {f : Int} {v : Value} {p : List UInt8} {t : TypeId} (h : Sh w0 w H D) (hi : H[i]? = some (b, BatP.btA f v p, t)) : RdV w (some ⟨b, 2, none⟩) (bcells p) := by
  intro _
  refine ⟨_, rfl, fun j u hu => ?_⟩
  have e : (⟨b, 2, none⟩ : Addr).add j = ⟨b, 2 + j, none⟩ := by unfold Addr.add; split <;> simp_all
  rw [e]
  refine boxH (h.own _ (List.mem_of_getElem? hi)) (2 + j) ?_
  have e2 : (BatP.btA f v p)[2 + j]? = (bcells p)[j]? := by
    unfold BatP.btA
    rw [List.getElem?_toArray, show 2 + j = (j + 1) + 1 by omega, List.getElem?_cons_succ, List.getElem?_cons_succ]
  rw [e2]; exact hu
/-- A byte of the sum ahead, stored at a variable place. -/
theorem bst_byte {T : TypeId} {x y : Operand} (i : Nat) {b j : Nat} {f : Int} {v : Value} {p : List UInt8} {c : UInt8} {t : TypeId} (sh : Sh w0 w H D) (hx : a.eval x = .pointer (some ⟨b, 2 + j, none⟩)) (hi : H[i]? = some (b, BatP.btA f v p, t)) (hj : j < p.length) (hv : a.eval y = .int .u8 (c.toNat : Int))
    (hsz : (P.info? T).map (·.size) = some 1) (k : ∀ w', Sh w0 w' (H.set i (b, BatP.btA f v (p.set j c), t)) D → K (a.put dst undef) w') :
    Oper.wp P ⟨dst, .store T x y, ty, pos, af, gd⟩ a w K Q := by
  refine wp_store i sh hx hi hv rfl hsz (by rw [BatP.btA_size]; show 2 + j + 1 ≤ _; omega) rfl (fun w' sh' => k w' ?_)
  have e : putCells (BatP.btA f v p) (2 + j) [Value.int .u8 (c.toNat : Int)] = BatP.btA f v (p.set j c) := by
    show (BatP.btA f v p).setIfInBounds (2 + j) (Value.int .u8 (c.toNat : Int)) = _
    apply Array.ext'
    unfold BatP.btA bcells
    simp only [Array.toList_setIfInBounds]
    rw [show 2 + j = (j + 1) + 1 by omega, List.set_cons_succ, List.set_cons_succ, List.map_set]
  have sh2 : Sh w0 w' (H.set i (b, putCells (BatP.btA f v p) (2 + j) [Value.int .u8 (c.toNat : Int)], t)) D := sh'
  rw [e] at sh2
  exact sh2
/-- The sum ahead, loaded. -/
theorem bld_prev {ops : Array Oper} {rest : List Oper} {T : TypeId} {x : Operand} (i : Nat) {b : Nat} {f : Int} {v : Value} {p : List UInt8} {t : TypeId} {d : TypeDesc} (sh : Sh w0 w H D)
    (hw : Region.wanted ⟨dst, .load T x, ty, pos, af, gd⟩ (yielded ops a.tmps) = true) (hx : a.eval x = .pointer (some ⟨b, 2, none⟩)) (hi : H[i]? = some (b, BatP.btA f v p, t)) (hu : P.underlying T = some d) (hd : d.isRow = true) (hs : (P.info? T).map (·.size) = some p.length)
    (k : wpList P ops Q rest (a.put dst (.agg (BatP.bA p))) w) : wpList P ops Q (⟨dst, .load T x, ty, pos, af, gd⟩ :: rest) a w := by
  refine list_of hw ?_
  have hb := sh.own _ (List.mem_of_getElem? hi)
  have h := run_loadVar_mid (P := P) w b 2 T (bcells p) d (fun j u hu => boxH hb (2 + j) (by
    have e : (BatP.btA f v p)[2 + j]? = (bcells p)[j]? := by
      unfold BatP.btA
      rw [List.getElem?_toArray, show 2 + j = (j + 1) + 1 by omega, List.getElem?_cons_succ, List.getElem?_cons_succ]
    rw [e]; exact hu)) hu hd (by rw [hs, bcells_length])
  have h2 : (execOp a.eval ⟨dst, .load T x, ty, pos, af, gd⟩).run P w = .ok (.value (.agg (BatP.bA p))) w := by
    have h3 : (loadVar T ⟨b, 2, none⟩).run P w = .ok (.agg (BatP.bA p)) w := h
    simp [execOp, hx, Instr.loadAt, Instr.sureAddr, h3, Result.andThen]
  unfold Oper.wp
  rw [h2]
  exact k
/-- copy of a text that is as long, or longer: its first bytes go over the whole array. -/
theorem run_copy_long {g n dCap : Nat} {dT sT ty' elem t : TypeId} {l : List UInt8} {cur : Array Value} (hu : P.underlying dT = some (.slice elem)) (hs : (P.info? elem).map (·.size) = some 1) (hn : n ≤ l.length) (hc : cur.size = n) (hg : w.heap[g]? = some (.cells cur t (0, 0))) :
    (Builtin.copy_ #[dT, sT] ty' #[.slice (some ⟨g, 0, none⟩) n dCap, .string (bstr l)]).run P w = .ok (goInt n) (w.setRow g (BatP.bA (l.take n))) := by
  have hlen : (bcells (l.take n)).length = n := by rw [bcells_length, List.length_take]; omega
  have hst := run_storeCells_at P g 0 t (bcells (l.take n)) 0 cur w hg (by rw [hlen]; omega) (ones_mem (BatP.ones_bcells _))
  have hmin : Nat.min (bstr l).size n = n := Nat.min_eq_right (by rw [bstr_size]; exact hn)
  have htk : List.take n (List.map (fun b : UInt8 => Value.int IntKind.u8 (b.toNat : Int)) (bstr l).data.toList) = bcells (l.take n) := by
    rw [bstr_data, ← List.map_take]; rfl
  rw [hlen] at hst
  have hd : cur.toList.drop n = [] := List.drop_eq_nil_of_le (by rw [Array.length_toList]; omega)
  simp only [Nat.add_zero, Nat.zero_add, List.take_zero, List.nil_append, hd, List.append_nil] at hst
  cases hq : P.info? elem with
  | none => simp [hq] at hs
  | some i =>
    simp [Builtin.copy_, run_underlying hu, Builtin.lenOf, Builtin.firstCells, sizeOf, typeInfo, hq, hmin]
    rw [htk, hst]
    simp [Result.andThen, BatP.bA]
theorem wp_copy_str {T1 T2 e : TypeId} {d s : Operand} (hT : P.underlying T1 = some (.slice e)) (hsz : (P.info? e).map (·.size) = some 1) (sh : Sh w0 w H D) (i : Nat) {b n cap : Nat} {cur : Array Value} {t : TypeId} (hi : H[i]? = some (b, cur, t))
    (hd : a.eval d = .slice (some ⟨b, 0, none⟩) n cap) (l : List UInt8) (hs : a.eval s = .string (bstr l)) (hn : n ≤ l.length) (hc : cur.size = n)
    (k : ∀ w', Sh w0 w' (H.set i (b, BatP.bA (l.take n), t)) D → K (a.put dst (goInt n)) w') :
    Oper.wp P ⟨dst, .call { callee := .builtin .copy, args := #[d, s], argTypes := #[T1, T2] }, ty, pos, af, gd⟩ a w K Q := by
  have hg := sh.own _ (List.mem_of_getElem? hi)
  have hrun := run_copy_long (P := P) (dT := T1) (sT := T2) (ty' := ty) (dCap := cap) hT hsz hn hc hg
  have := k _ (sh.row i b cur _ t hi)
  simpa [Oper.wp, execOp, resolve, invoke, builtin, hd, hs, hrun, Oper.upon, Result.andThen] using this
end
end Hp
end Go.Proofs.YtfcffglgkblidaaDoor
