
/-
  More rules over a walk's memory: copy, clear, slices with three indexes, rows that a call hands on.
-/
import Derived.Test.YtfcffglgkblidaaDoorHeap
import Derived.Lib.SliceRun
namespace Go.Proofs.YtfcffglgkblidaaDoor
open Go.RowKit
set_option linter.unusedVariables false
set_option linter.unusedSimpArgs false

namespace Hp
/-- What a call has made, and hands on. -/
theorem gain {w0 w w' : World} {H : List Blk} {D : World → Prop} (sh : Sh w0 w H D) (hb : Below w.heap.size w w') {s : Option Addr} {vs : List Value} (hn : ∀ p, s = some p → w.heap.size ≤ p.block) (hr : RdV w' s vs) : Sh w0 w' H (fun W => RdV W s vs ∧ D W) :=
  (sh.call hb).add (fun W' ho => hr.below ho (fun p hp hi => by have := sh.in_lt _ hi; have := hn p hp; omega))
theorem row_new {w w1 : World} {H R : List Blk} {D : World → Prop} (sh : Sh w w1 (R ++ H) D) {e : TypeId} {size : Nat} {s : Option Addr} {n c : Nat} {xs : List Value} (hr : RowIs e size (.slice s n c) n xs R) : ∀ p, s = some p → w.heap.size ≤ p.block := by
  rcases hr.2 with ⟨hv, rfl, rfl⟩ | ⟨g, cc, cur, hv, rfl, h1, h2, h3, h4⟩
  · simp only [Value.slice.injEq] at hv
    obtain ⟨rfl, -, -⟩ := hv
    intro p hp; cases hp
  · simp only [Value.slice.injEq] at hv
    obtain ⟨rfl, -, -⟩ := hv
    intro p hp
    obtain rfl := Option.some.inj hp
    exact sh.ge (g, cur, e) (by simp)

section
variable {P : Program} {w0 w : World} {H : List Blk} {D : World → Prop} {dst : Option Tmp} {ty : TypeId} {pos : String} {af : Array Edge} {g : Option (Nat × Bool)} {a : Act} {K : Act → World → Prop} {Q : Exit → Act → World → Prop}
theorem exec_cut3 {ev : Operand → Value} {T e : TypeId} {x lo hi' mx : Operand} {size : Nat} (hT : P.underlying T = some (.slice e)) (hi : (P.info? e).map (·.size) = some size) {s : Option Addr} {n cap : Nat} (l h m : Nat) {k1 k2 k3 : IntKind}
    (hx : ev x = .slice s n cap) (hlo : ev lo = .int k1 l) (hhi : ev hi' = .int k2 h) (hmx : ev mx = .int k3 m) (h1 : l ≤ h) (h2 : h ≤ m) (h3 : m ≤ cap) (w : World) :
    (execOp ev ⟨dst, .slice T x (some lo) (some hi') (some mx), ty, pos, af, g⟩).run P w = .ok (.value (.slice (cut s l m size) (h - l) (m - l))) w := by
  cases hq : P.info? e with
  | none => simp [hq] at hi
  | some i =>
    have hs : i.size = size := by simpa [hq] using hi
    simp [execOp, hx, hlo, hhi, hmx, Instr.sliceAt, Instr.slice, run_underlying hT, Instr.sliceBounds, run_sliceBound, h1, h2, h3, sizeOf, typeInfo, hq, hs, cut]
theorem wpl_cut3 {ops : Array Oper} {rest : List Oper} {T e : TypeId} {x lo hi' mx : Operand} {size : Nat} (hT : P.underlying T = some (.slice e)) (hi : (P.info? e).map (·.size) = some size) {s : Option Addr} {n cap : Nat} (l h m : Nat) {k1 k2 k3 : IntKind}
    (hw : Region.wanted ⟨dst, .slice T x (some lo) (some hi') (some mx), ty, pos, af, g⟩ (yielded ops a.tmps) = true) (hx : a.eval x = .slice s n cap) (hlo : a.eval lo = .int k1 l) (hhi : a.eval hi' = .int k2 h) (hmx : a.eval mx = .int k3 m) (h1 : l ≤ h) (h2 : h ≤ m) (h3 : m ≤ cap)
    (k : wpList P ops Q rest (a.put dst (.slice (cut s l m size) (h - l) (m - l))) w) : wpList P ops Q (⟨dst, .slice T x (some lo) (some hi') (some mx), ty, pos, af, g⟩ :: rest) a w := by
  refine list_of hw ?_
  have hr := exec_cut3 (P := P) (dst := dst) (ty := ty) (pos := pos) (af := af) (g := g) hT hi l h m hx hlo hhi hmx h1 h2 h3 w
  simpa [Oper.wp, hr, Oper.upon, Result.andThen] using k

/-- Where k cells from place l on of a slice lie, if it begins at o of block g. -/
def cutA (g o l k : Nat) : Addr := if k = 0 then ⟨g, o, none⟩ else ⟨g, o + l, none⟩
theorem cutA_pos {g o l k : Nat} (h : 0 < k) : cutA g o l k = ⟨g, o + l, none⟩ := by unfold cutA; rw [if_neg (by omega)]
theorem cut_cutA (g o l k : Nat) : cut (some ⟨g, o, none⟩) l (l + k) 1 = some (cutA g o l k) := by
  unfold cut cutA
  by_cases hk : k = 0
  · rw [if_pos (by omega), if_pos hk]
  · rw [if_neg (by omega), if_neg hk]
    simp only [Option.map_some, Option.some.injEq, Addr.add, Nat.mul_one]
    split
    · rename_i h0; subst h0; rfl
    · rfl
theorem exec_cutA {ev : Operand → Value} {T e : TypeId} {x lo hi' mx : Operand} (hT : P.underlying T = some (.slice e)) (hi : (P.info? e).map (·.size) = some 1) {gg o n cap : Nat} (l k : Nat) {h m : Int} {k1 k2 k3 : IntKind}
    (hx : ev x = .slice (some ⟨gg, o, none⟩) n cap) (hlo : ev lo = .int k1 l) (hhi : ev hi' = .int k2 h) (hmx : ev mx = .int k3 m) (hh : h = ((l + k : Nat) : Int)) (hm : m = ((l + k : Nat) : Int)) (hc : l + k ≤ cap) (w : World) :
    (execOp ev ⟨dst, .slice T x (some lo) (some hi') (some mx), ty, pos, af, g⟩).run P w = .ok (.value (.slice (some (cutA gg o l k)) k k)) w := by
  subst hh hm
  have := exec_cut3 (P := P) (dst := dst) (ty := ty) (pos := pos) (af := af) (g := g) hT hi l (l + k) (l + k) hx hlo hhi hmx (by omega) (by omega) hc w
  rw [this, cut_cutA, Nat.add_sub_cancel_left]
theorem wpl_cutA {ops : Array Oper} {rest : List Oper} {T e : TypeId} {x lo hi' mx : Operand} (hT : P.underlying T = some (.slice e)) (hi : (P.info? e).map (·.size) = some 1) {gg o n cap : Nat} (l k : Nat) {h m : Int} {k1 k2 k3 : IntKind}
    (hw : Region.wanted ⟨dst, .slice T x (some lo) (some hi') (some mx), ty, pos, af, g⟩ (yielded ops a.tmps) = true) (hx : a.eval x = .slice (some ⟨gg, o, none⟩) n cap) (hlo : a.eval lo = .int k1 l) (hhi : a.eval hi' = .int k2 h) (hmx : a.eval mx = .int k3 m)
    (hh : h = ((l + k : Nat) : Int)) (hm : m = ((l + k : Nat) : Int)) (hc : l + k ≤ cap)
    (kk : wpList P ops Q rest (a.put dst (.slice (some (cutA gg o l k)) k k)) w) : wpList P ops Q (⟨dst, .slice T x (some lo) (some hi') (some mx), ty, pos, af, g⟩ :: rest) a w := by
  refine list_of hw ?_
  have hr := exec_cutA (P := P) (dst := dst) (ty := ty) (pos := pos) (af := af) (g := g) hT hi l k hx hlo hhi hmx hh hm hc w
  simpa [Oper.wp, hr, Oper.upon, Result.andThen] using kk

/-- copy, into a block of the walk's own. -/
theorem wp_copy {T1 T2 e : TypeId} {d s : Operand} (hT : P.underlying T1 = some (.slice e)) (hsz : (P.info? e).map (·.size) = some 1) (sh : Sh w0 w H D) (i : Nat) {b off n cap m c2 : Nat} {cur : Array Value} {t : TypeId} (hi : H[i]? = some (b, cur, t)) {dp sp : Option Addr}
    (hd : a.eval d = .slice dp n cap) (hs : a.eval s = .slice sp m c2) (cs : List Value) (hn : cs.length = Nat.min m n) (hpos : 0 < cs.length → dp = some ⟨b, off, none⟩) (hsrc : RdV w sp cs) (hfit : off + cs.length ≤ cur.size) (h1 : ∀ v ∈ cs, v.oneCell' = true)
    (k : ∀ w', Sh w0 w' (H.set i (b, (splice cur.toList off cs).toArray, t)) D → K (a.put dst (goInt cs.length)) w') :
    Oper.wp P ⟨dst, .call { callee := .builtin .copy, args := #[d, s], argTypes := #[T1, T2] }, ty, pos, af, g⟩ a w K Q := by
  have hg := sh.own _ (List.mem_of_getElem? hi)
  by_cases h0 : cs.length = 0
  · obtain rfl : cs = [] := List.eq_nil_of_length_eq_zero h0
    have hrun := run_copy_none (P := P) w T1 T2 ty e dp sp n cap m c2 hT hsz (by simpa using hn.symm)
    have hsh : Sh w0 w (H.set i (b, (splice cur.toList off []).toArray, t)) D := by
      have e1 : (splice cur.toList off []).toArray = cur := by simp [splice]
      rw [e1]
      obtain ⟨hl, he⟩ := List.getElem?_eq_some_iff.1 hi
      rw [← he, List.set_getElem_self hl]; exact sh
    have := k _ hsh
    simpa [Oper.wp, execOp, resolve, invoke, builtin, hd, hs, hrun, Oper.upon, Result.andThen] using this
  · obtain rfl := hpos (by omega)
    obtain ⟨ad, rfl, hcs⟩ := hsrc (by omega)
    have hrun := run_copy_row (P := P) w T1 T2 ty e b off n cap ad m c2 cur t cs hT hsz hg hn hcs hfit h1
    have := k _ (sh.row i b cur _ t hi)
    simpa [Oper.wp, execOp, resolve, invoke, builtin, hd, hs, hrun, Oper.upon, Result.andThen, splice] using this
/-- clear of a slice in a block of the walk's own. -/
theorem wp_clear {T e : TypeId} {d : Operand} {z : Value} (hT : P.underlying T = some (.slice e)) (hz : ∀ W, (zeroValue e).run P W = .ok z W) (hc : z.cells = #[z]) (ho : z.oneCell' = true) (sh : Sh w0 w H D) (i : Nat) {b off n cap : Nat} {cur : Array Value} {t : TypeId} (hi : H[i]? = some (b, cur, t))
    (hd : a.eval d = .slice (some ⟨b, off, none⟩) n cap) (hn : 0 < n) (hfit : off + n ≤ cur.size)
    (k : ∀ w', Sh w0 w' (H.set i (b, putCells cur off (List.replicate n z), t)) D → K (a.put dst (.tuple #[])) w') :
    Oper.wp P ⟨dst, .call { callee := .builtin .clear, args := #[d], argTypes := #[T] }, ty, pos, af, g⟩ a w K Q := by
  have hg := sh.own _ (List.mem_of_getElem? hi)
  have hrun := Lib.run_clear_slice (P := P) w T e ty z hT hz hc ho b off n cap hn (fun j hj => by have hlt : off + j < cur.size := (by omega); rw [boxH hg (off + j) (Array.getElem?_eq_getElem hlt)]; rfl) (fun j hj => boxF hg _)
  have := k _ (Sh.sets b t i (List.replicate n z) off cur w H sh hi)
  simpa [Oper.wp, execOp, resolve, invoke, builtin, hd, hrun, Oper.upon, Result.andThen] using this
/-- At a copy whose first argument slot s holds. -/
theorem atl_copy (s : Tmp) {ops : Array Oper} {rest : List Oper} {x : Operand} {ts : Array TypeId} (hw : Region.wanted ⟨dst, .call { callee := .builtin .copy, args := #[.tmp s, x], argTypes := ts }, ty, pos, af, g⟩ (yielded ops a.tmps) = true)
    (h : Oper.wp P ⟨dst, .call { callee := .builtin .copy, args := #[.tmp s, x], argTypes := ts }, ty, pos, af, g⟩ a w (wpList P ops Q rest) Q) : wpList P ops Q (⟨dst, .call { callee := .builtin .copy, args := #[.tmp s, x], argTypes := ts }, ty, pos, af, g⟩ :: rest) a w := list_of hw h
theorem atl_clear (s : Tmp) {ops : Array Oper} {rest : List Oper} {ts : Array TypeId} (hw : Region.wanted ⟨dst, .call { callee := .builtin .clear, args := #[.tmp s], argTypes := ts }, ty, pos, af, g⟩ (yielded ops a.tmps) = true)
    (h : Oper.wp P ⟨dst, .call { callee := .builtin .clear, args := #[.tmp s], argTypes := ts }, ty, pos, af, g⟩ a w (wpList P ops Q rest) Q) : wpList P ops Q (⟨dst, .call { callee := .builtin .clear, args := #[.tmp s], argTypes := ts }, ty, pos, af, g⟩ :: rest) a w := list_of hw h
/-- A region that draws its order, beside a row that it appends to. -/
theorem region_shR {id : Nat} {ops : Array Oper} {R : List Blk} (hm : P.follows .mixedOrders = true) (sh : Sh w0 w (R ++ H) D)
    (k : ∀ w', Sh w0 w' (R ++ H) D → wpAnyH P .any ops Q (Held H D) ops.size (Array.replicate ops.size false) a w') : (Code.region id ops true).wp P Q a w :=
  wp_region_held hm (k _ sh.drew)
end
theorem putCells_size : ∀ (vs : List Value) (o : Nat) (c : Array Value), (putCells c o vs).size = c.size
  | [], _, _ => rfl
  | v :: r, o, c => by rw [putCells, putCells_size r]; simp
theorem putCells_get : ∀ (vs : List Value) (o : Nat) (c : Array Value) (j : Nat), (putCells c o vs)[j]? = if o ≤ j ∧ j < o + vs.length ∧ j < c.size then vs[j - o]? else c[j]?
  | [], o, c, j => by rw [putCells, if_neg (by simp; omega)]
  | v :: r, o, c, j => by
    rw [putCells, putCells_get r]
    simp only [Array.size_setIfInBounds, List.length_cons]
    by_cases h1 : j = o
    · subst h1
      rw [if_neg (by omega)]
      by_cases h2 : j < c.size
      · rw [if_pos (⟨by omega, by omega, h2⟩ : j ≤ j ∧ j < j + (r.length + 1) ∧ j < c.size)]; simp [h2]
      · rw [if_neg (by omega)]; simp [h2]
    · rw [Array.getElem?_setIfInBounds_ne (by omega)]
      by_cases h2 : o ≤ j ∧ j < o + (r.length + 1) ∧ j < c.size
      · rw [if_pos (⟨by omega, by omega, h2.2.2⟩ : o + 1 ≤ j ∧ j < o + 1 + r.length ∧ j < c.size), if_pos h2, show j - o = (j - (o + 1)) + 1 by omega]; simp
      · rw [if_neg (by omega), if_neg h2]
theorem putCells_splice (vs : List Value) (o : Nat) (c : Array Value) (h : o + vs.length ≤ c.size) : putCells c o vs = (splice c.toList o vs).toArray := by
  apply Array.ext_getElem?
  intro j
  rw [putCells_get]
  have e : (splice c.toList o vs).toArray[j]? = (splice c.toList o vs)[j]? := by simp
  have e2 : c[j]? = c.toList[j]? := by simp
  rw [e, e2]
  unfold splice
  by_cases h1 : j < o
  · rw [if_neg (by omega), List.getElem?_append_left (by simp; omega), List.getElem?_take, if_pos h1]
  · by_cases h2 : j < o + vs.length
    · rw [if_pos ⟨by omega, h2, by omega⟩, List.getElem?_append_right (by simp; omega), List.getElem?_append_left (by simp; omega)]
      congr 1; simp; omega
    · rw [if_neg (by omega), List.getElem?_append_right (by simp; omega), List.getElem?_append_right (by simp; omega), List.getElem?_drop]
      congr 1; simp; omega
end Hp

end Go.Proofs.YtfcffglgkblidaaDoor
