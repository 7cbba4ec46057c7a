/-
  The memory of a call: its own blocks, each with its cells; data that no store to them can turn.
-/
import Derived.Test.YtkcpmghlndnfbaaInts
import Derived.Deep.MidRow
import Derived.OrdersHeld
namespace Go.Proofs.Ytkcpmghlndnfbaa
open Go.RowKit
set_option linter.unusedVariables false
set_option linter.unusedSimpArgs false

namespace Mem

/-- What was there is there, but for the blocks of S. -/
def Off (S : Nat → Prop) (w w' : World) : Prop := w.heap.size ≤ w'.heap.size ∧ ∀ b, b < w.heap.size → ¬ S b → w'.heap[b]? = w.heap[b]?
theorem Off.refl (S : Nat → Prop) (w : World) : Off S w w := ⟨Nat.le_refl _, fun _ _ _ => rfl⟩
theorem Off.trans {S : Nat → Prop} {a b c : World} (h : Off S a b) (k : Off S b c) : Off S a c :=
  ⟨Nat.le_trans h.1 k.1, fun i hi hs => (k.2 i (Nat.lt_of_lt_of_le hi h.1) hs).trans (h.2 i hi hs)⟩
theorem Off.mono {S S' : Nat → Prop} {a b : World} (h : Off S a b) (hs : ∀ i, i < a.heap.size → S i → S' i) : Off S' a b := ⟨h.1, fun i hi hn => h.2 i hi (fun k => hn (hs i hi k))⟩
theorem Off.below {S : Nat → Prop} {a b : World} (h : Below a.heap.size a b) : Off S a b := ⟨h.size, fun i hi _ => h.block i hi⟩

/-- F holds, and whatever is done off S, it holds still. -/
def Rob (S : Nat → Prop) (w : World) (F : World → Prop) : Prop := ∀ w', Off S w w' → F w'
theorem Rob.here {S : Nat → Prop} {w : World} {F : World → Prop} (h : Rob S w F) : F w := h w (Off.refl _ _)
theorem Rob.off {S : Nat → Prop} {w w' : World} {F : World → Prop} (h : Rob S w F) (k : Off S w w') : Rob S w' F := fun w'' k' => h w'' (k.trans k')
theorem Rob.below {S : Nat → Prop} {w w' : World} {F : World → Prop} (h : Rob S w F) (k : Below w.heap.size w w') : Rob S w' F := h.off (Off.below k)
theorem Rob.and {S : Nat → Prop} {w : World} {F G : World → Prop} (h : Rob S w F) (k : Rob S w G) : Rob S w (fun w => F w ∧ G w) := fun w' o => ⟨h w' o, k w' o⟩
theorem Rob.imp {S : Nat → Prop} {w : World} {F G : World → Prop} (h : Rob S w F) (k : ∀ w, F w → G w) : Rob S w G := fun w' o => k w' (h w' o)
theorem Rob.mono {S S' : Nat → Prop} {w : World} {F : World → Prop} (h : Rob S w F) (k : ∀ i, i < w.heap.size → S' i → S i) : Rob S' w F := fun w' o => h w' (o.mono k)
theorem Rob.triv {S : Nat → Prop} {w : World} : Rob S w (fun _ => True) := fun _ _ => trivial

abbrev Blk := Nat × Array Value × TypeId
/-- The blocks of H, and of S. -/
def Ext (S : Nat → Prop) (H : List Blk) (b : Nat) : Prop := S b ∨ b ∈ H.map (·.1)

/-- The memory of a call that began at w0: nothing that was there has turned; its own blocks H lie there, apart from one another; and D holds, whatever is stored into them. -/
structure Sh (S : Nat → Prop) (w0 w : World) (H : List Blk) (D : World → Prop) : Prop where
  below : Below w0.heap.size w0 w
  lt : ∀ b, S b → b < w0.heap.size
  nodup : (H.map (·.1)).Nodup
  ge : ∀ x ∈ H, w0.heap.size ≤ x.1
  own : ∀ x ∈ H, w.heap[x.1]? = some (.cells x.2.1 x.2.2 (0, 0))
  rob : Rob (Ext S H) w D

section
variable {S : Nat → Prop} {w0 w w' : World} {H : List Blk} {D : World → Prop}

theorem Sh.start (hS : ∀ b, S b → b < w.heap.size) (h : Rob S w D) : Sh S w w [] D :=
  ⟨Below.refl _ _, hS, by simp, by simp, by simp, h.mono (fun i _ hi => by simpa [Ext] using hi)⟩
theorem Sh.data (h : Sh S w0 w H D) : D w := h.rob.here
theorem Sh.ext_lt (h : Sh S w0 w H D) : ∀ b, Ext S H b → b < w.heap.size := by
  intro b hb
  rcases hb with hb | hb
  · exact Nat.lt_of_lt_of_le (h.lt b hb) h.below.size
  · obtain ⟨x, hx, rfl⟩ := List.mem_map.1 hb
    exact (Array.getElem?_eq_some_iff.1 (h.own x hx)).1
theorem Sh.call (h : Sh S w0 w H D) (hb : Below w.heap.size w w') : Sh S w0 w' H D :=
  ⟨below_step h.below hb, h.lt, h.nodup, h.ge, fun x hx => kept hb (h.own x hx), h.rob.below hb⟩
theorem Sh.drew (h : Sh S w0 w H D) : Sh S w0 w.drew H D := h.call ((Below.refl _ _).drew)
theorem Sh.drewN (h : Sh S w0 w H D) (n : Nat) : Sh S w0 (w.drewN n) H D := h.call (bdrewN (Below.refl _ _) n)
theorem Sh.imp {E : World → Prop} (h : Sh S w0 w H D) (k : ∀ w, D w → E w) : Sh S w0 w H E := ⟨h.below, h.lt, h.nodup, h.ge, h.own, h.rob.imp k⟩
theorem Sh.add {E : World → Prop} (h : Sh S w0 w H D) (k : Rob (Ext S H) w E) : Sh S w0 w H (fun w => E w ∧ D w) := ⟨h.below, h.lt, h.nodup, h.ge, h.own, k.and h.rob⟩
theorem Sh.with {E : World → Prop} (h : Sh S w0 w H D) (k : Rob (Ext S H) w E) : Sh S w0 w H E := ⟨h.below, h.lt, h.nodup, h.ge, h.own, k⟩
/-- What holds behind the call, of what it was handed. -/
theorem Sh.back (h : Sh S w0 w H D) : Rob S w D := h.rob.mono (fun _ _ hi => .inl hi)

theorem Sh.alloc (h : Sh S w0 w H D) (c : Array Value) (t : TypeId) : Sh S w0 (w.alloc (.cells c t)) ((w.heap.size, c, t) :: H) D := by
  have hlt : ∀ x ∈ H, x.1 < w.heap.size := fun x hx => (Array.getElem?_eq_some_iff.1 (h.own x hx)).1
  refine ⟨h.below.alloc h.below.size _, h.lt, ?_, ?_, ?_, ?_⟩
  · rw [List.map_cons, List.nodup_cons]
    refine ⟨fun hm => ?_, h.nodup⟩
    obtain ⟨x, hx, e⟩ := List.mem_map.1 hm
    have := hlt x hx
    omega
  · intro x hx
    rcases List.mem_cons.1 hx with rfl | hx
    · exact h.below.size
    · exact h.ge x hx
  · intro x hx
    rcases List.mem_cons.1 hx with rfl | hx
    · exact heap_alloc_new w _
    · exact kept_alloc (h.own x hx)
  · intro w'' ho
    refine h.rob w'' ⟨Nat.le_trans (by simp) ho.1, fun b hb hs => ?_⟩
    rw [ho.2 b (by simp; omega) (fun k => hs ?_)]
    · exact heap_alloc_old w _ hb
    · rcases k with k | k
      · exact .inl k
      · rw [List.map_cons, List.mem_cons] at k
        rcases k with rfl | k
        · simp at hb
        · exact .inr k

theorem setCell_heap (w : World) (b j : Nat) (v : Value) (c : Array Value) (t : TypeId) (fr : Nat × Nat) (h : w.heap[b]? = some (.cells c t fr)) : (w.setCell ⟨b, j, none⟩ v).heap[b]? = some (.cells (c.setIfInBounds j v) t fr) := by
  simp [World.setCell, Array.getElem?_modify, h]

theorem Sh.set (h : Sh S w0 w H D) (i b : Nat) (c : Array Value) (t : TypeId) (hi : H[i]? = some (b, c, t)) (j : Nat) (v : Value) : Sh S w0 (w.setCell ⟨b, j, none⟩ v) (H.set i (b, c.setIfInBounds j v, t)) D := by
  have hm : (b, c, t) ∈ H := List.mem_of_getElem? hi
  have hb0 : w0.heap.size ≤ b := h.ge _ hm
  have hmap : (H.set i (b, c.setIfInBounds j v, t)).map (·.1) = H.map (·.1) := by
    apply List.ext_getElem?
    intro k
    simp only [List.getElem?_map, List.getElem?_set]
    split
    · rename_i e
      subst e
      obtain ⟨hl, he⟩ := List.getElem?_eq_some_iff.1 hi
      simp [hl, he]
    · rfl
  refine ⟨h.below.setCell hb0 v, h.lt, by rw [hmap]; exact h.nodup, ?_, ?_, ?_⟩
  · intro x hx
    rcases List.mem_or_eq_of_mem_set hx with hx | rfl
    · exact h.ge x hx
    · exact hb0
  · intro x hx
    obtain ⟨k, hk⟩ := List.getElem?_of_mem hx
    rw [List.getElem?_set] at hk
    split at hk
    · rename_i e
      subst e
      split at hk
      · simp only [Option.some.injEq] at hk
        subst hk
        exact setCell_heap w b j v c t (0, 0) (h.own _ hm)
      · cases hk
    · rename_i hne
      have hxm : x ∈ H := List.mem_of_getElem? hk
      have hbx : x.1 ≠ b := by
        intro e
        have h1 : (H.map (·.1))[k]? = some b := by simp [hk, e]
        have h2 : (H.map (·.1))[i]? = some b := by simp [hi]
        obtain ⟨l1, e1⟩ := List.getElem?_eq_some_iff.1 h1
        obtain ⟨l2, e2⟩ := List.getElem?_eq_some_iff.1 h2
        exact hne ((List.getElem_inj h.nodup).1 (e2.trans e1.symm))
      rw [Below.heap_setCell w _ v x.1 hbx]
      exact h.own x hxm
  · intro w'' ho
    refine h.rob w'' ⟨Nat.le_trans (by simp) ho.1, fun k hk hs => ?_⟩
    rw [ho.2 k (by simpa using hk) (fun q => hs (by rcases q with q | q; exact .inl q; exact .inr (by rw [hmap] at q; exact q)))]
    refine Below.heap_setCell w _ v k (fun e => hs (.inr ?_))
    subst e
    exact List.mem_map.2 ⟨_, hm, rfl⟩

/-- The newest block is let go. -/
theorem Sh.drop1 {x : Blk} (h : Sh S w0 w (x :: H) D) : Sh S w0 w H D :=
  ⟨h.below, h.lt, (List.nodup_cons.1 h.nodup).2, fun y hy => h.ge y (by simp [hy]), fun y hy => h.own y (by simp [hy]), h.rob.mono (fun i _ hi => by
    rcases hi with hi | hi
    · exact .inl hi
    · exact .inr (by simp at hi ⊢; exact .inr hi))⟩

/-- The cells of a block, as facts. -/
def CellsAt (w : World) (b : Nat) : Nat → List Value → Prop
  | _, [] => True
  | j, v :: r => w.cell? ⟨b, j, none⟩ = some v ∧ CellsAt w b (j + 1) r
def Facts (w : World) : List Blk → Prop
  | [] => True
  | (b, c, _) :: r => (CellsAt w b 0 c.toList ∧ ∀ j, w.frozen? ⟨b, j, none⟩ = false) ∧ Facts w r

theorem cellsAt (w : World) (b : Nat) (c : Array Value) (t : TypeId) (fr : Nat × Nat) (h : w.heap[b]? = some (.cells c t fr)) : ∀ (l : List Value) (j : Nat), (∀ i v, l[i]? = some v → c[j + i]? = some v) → CellsAt w b j l
  | [], _, _ => trivial
  | v :: r, j, hl => ⟨box h j (by simpa using hl 0 v rfl), cellsAt w b c t fr h r (j + 1) (fun i u hu => by
      have := hl (i + 1) u (by simpa using hu)
      rw [show j + 1 + i = j + (i + 1) by omega]; exact this)⟩
theorem Sh.facts (h : Sh S w0 w H D) : Facts w H := by
  have key : ∀ L : List Blk, (∀ x ∈ L, x ∈ H) → Facts w L := by
    intro L
    induction L with
    | nil => intro _; trivial
    | cons x r ih =>
      intro hm
      obtain ⟨b, c, t⟩ := x
      have h1 := h.own (b, c, t) (hm _ (by simp))
      refine ⟨⟨cellsAt w b c t (0, 0) h1 c.toList 0 (fun i v hv => by simpa using hv), fun j => box_free h1 j⟩, ih (fun y hy => hm y (by simp [hy]))⟩
  exact key H (fun _ h => h)
end

/-! ### Operations -/
section
variable {P : Program} {S : Nat → Prop} {w0 w : World} {H : List Blk} {D : World → Prop} {dst : Option Tmp} {ty : TypeId} {pos : String} {af : Array Edge} {g : Option (Nat × Bool)} {a : Act} {K : Act → World → Prop} {Q : Exit → Act → World → Prop}

theorem wp_box {T : TypeId} {x : Operand} (sh : Sh S w0 w H D) (k : ∀ b w', Sh S w0 w' ((b, (a.eval x).cells, T) :: H) D → K (a.put dst (.pointer (some ⟨b, 0, none⟩))) w') :
    Oper.wp P ⟨dst, .box T x, ty, pos, af, g⟩ a w K Q := by
  have := k _ _ (sh.alloc (a.eval x).cells T)
  simpa [Oper.wp, execOp, Instr.box, newVar, newRow, newObj, Oper.upon, Result.andThen, Sem.run] using this

theorem wp_alloc {T : TypeId} {z : Value} (hz : ∀ W, (zeroValue T).run P W = .ok z W) (sh : Sh S w0 w H D) (k : ∀ b w', Sh S w0 w' ((b, z.cells, T) :: H) D → K (a.put dst (.pointer (some ⟨b, 0, none⟩))) w') :
    Oper.wp P ⟨dst, .alloc T, ty, pos, af, g⟩ a w K Q := by
  have := k _ _ (sh.alloc z.cells T)
  simpa [Oper.wp, execOp, Instr.alloc, newVar, newRow, newObj, Oper.upon, Result.andThen, Sem.run, hz] using this

def putCells (c : Array Value) : Nat → List Value → Array Value
  | _, [] => c
  | o, v :: r => putCells (c.setIfInBounds o v) (o + 1) r

theorem Sh.sets (b : Nat) (t : TypeId) (i : Nat) : ∀ (vs : List Value) (o : Nat) (c : Array Value) (w : World) (H : List Blk), Sh S w0 w H D → H[i]? = some (b, c, t) → Sh S w0 (w.setCells b o vs) (H.set i (b, putCells c o vs, t)) D
  | [], _, c, w, H, h, hi => by
    have e : H.set i (b, c, t) = H := by
      obtain ⟨hl, he⟩ := List.getElem?_eq_some_iff.1 hi
      rw [← he]; exact List.set_getElem_self hl
    simp only [World.setCells, putCells, e]; exact h
  | v :: r, o, c, w, H, h, hi => by
    have hl := (List.getElem?_eq_some_iff.1 hi).1
    have h1 := h.set i b c t hi o v
    have h2 := Sh.sets b t i r (o + 1) (c.setIfInBounds o v) _ _ h1 (by simp [List.getElem?_set, hl])
    rw [List.set_set] at h2
    exact h2

/-- Is each of these one cell? -/
def ones : List Value → Bool
  | [] => true
  | v :: r => v.oneCell' && ones r
theorem ones_mem : ∀ {l : List Value}, ones l = true → ∀ v ∈ l, v.oneCell' = true
  | [], _, _, hv => by cases hv
  | u :: r, h, v, hv => by
    simp only [ones, Bool.and_eq_true] at h
    rcases List.mem_cons.1 hv with rfl | hv
    · exact h.1
    · exact ones_mem h.2 v hv

attribute [go_sem] putCells
theorem at_store {T : TypeId} {x y : Operand} (h : Oper.wp P ⟨dst, .store T x y, ty, pos, af, g⟩ a w K Q) : Oper.wp P ⟨dst, .store T x y, ty, pos, af, g⟩ a w K Q := h
theorem wp_store {T : TypeId} {x y : Operand} (i : Nat) {b o n : Nat} {c : Array Value} {t : TypeId} {v : Value} (sh : Sh S w0 w H D) (hx : a.eval x = .pointer (some ⟨b, o, none⟩)) (hi : H[i]? = some (b, c, t)) (hv : a.eval y = v)
    (hn : v.cells.size = n) (hsz : (P.info? T).map (·.size) = some n) (hfit : o + n ≤ c.size) (h1 : ones v.cells.toList = true)
    (k : ∀ w', Sh S w0 w' (H.set i (b, putCells c o v.cells.toList, t)) D → K (a.put dst undef) w') :
    Oper.wp P ⟨dst, .store T x y, ty, pos, af, g⟩ a w K Q := by
  have hm : (b, c, t) ∈ H := List.mem_of_getElem? hi
  have hb := sh.own _ hm
  have hrun := run_storeCells_cells (P := P) b o v.cells.toList 0 w (fun j hj => by
      have hj' : o + j < c.size := by simp at hj; omega
      rw [Nat.add_zero, box hb (o + j) (Array.getElem?_eq_getElem hj')]; rfl) (fun j _ => box_free hb _) (ones_mem h1)
  simp only [Nat.add_zero] at hrun
  have := k _ (Sh.sets b t i v.cells.toList o c w H sh hi)
  cases hq : P.info? T with
  | none => simp [hq] at hsz
  | some q =>
    have hs : q.size = n := by simpa [hq] using hsz
    simpa [Oper.wp, execOp, Instr.storeAt, Instr.sureAddr, hx, hv, storeVar, sizeOf, typeInfo, hq, hs, hn, hrun, Oper.upon, Result.andThen] using this

theorem list_of {ops : Array Oper} {rest : List Oper} {o : Oper} (hw : Region.wanted o (yielded ops a.tmps) = true) (h : Oper.wp P o a w (wpList P ops Q rest) Q) : wpList P ops Q (o :: rest) a w := by
  unfold wpList
  rw [if_pos hw]
  exact .inl h

theorem wpl_box {ops : Array Oper} {rest : List Oper} {T : TypeId} {x : Operand} (sh : Sh S w0 w H D) (hw : Region.wanted ⟨dst, .box T x, ty, pos, af, g⟩ (yielded ops a.tmps) = true)
    (k : ∀ b w', Sh S w0 w' ((b, (a.eval x).cells, T) :: H) D → wpList P ops Q rest (a.put dst (.pointer (some ⟨b, 0, none⟩))) w') :
    wpList P ops Q (⟨dst, .box T x, ty, pos, af, g⟩ :: rest) a w := list_of hw (wp_box sh k)
theorem wpl_alloc {ops : Array Oper} {rest : List Oper} {T : TypeId} {z : Value} (hz : ∀ W, (zeroValue T).run P W = .ok z W) (sh : Sh S w0 w H D) (hw : Region.wanted ⟨dst, .alloc T, ty, pos, af, g⟩ (yielded ops a.tmps) = true)
    (k : ∀ b w', Sh S w0 w' ((b, z.cells, T) :: H) D → wpList P ops Q rest (a.put dst (.pointer (some ⟨b, 0, none⟩))) w') :
    wpList P ops Q (⟨dst, .alloc T, ty, pos, af, g⟩ :: rest) a w := list_of hw (wp_alloc hz sh k)
theorem atl_store {ops : Array Oper} {rest : List Oper} {T : TypeId} {x y : Operand} (hw : Region.wanted ⟨dst, .store T x y, ty, pos, af, g⟩ (yielded ops a.tmps) = true)
    (h : Oper.wp P ⟨dst, .store T x y, ty, pos, af, g⟩ a w (wpList P ops Q rest) Q) : wpList P ops Q (⟨dst, .store T x y, ty, pos, af, g⟩ :: rest) a w := list_of hw h

/-! ### A region that draws its order -/
/-- The facts of the blocks H, and D. -/
def Held (H : List Blk) (D : World → Prop) (w : World) : Prop := Facts w H ∧ D w
theorem Sh.held (h : Sh S w0 w H D) : Held H D w := ⟨h.facts, h.data⟩
theorem Sh.held1 {x : Blk} (h : Sh S w0 w (x :: H) D) : Held H D w := ⟨h.facts.2, h.data⟩
theorem Sh.held2 {x y : Blk} (h : Sh S w0 w (x :: y :: H) D) : Held H D w := ⟨h.facts.2.2, h.data⟩
theorem Sh.held3 {x y z : Blk} (h : Sh S w0 w (x :: y :: z :: H) D) : Held H D w := ⟨h.facts.2.2.2, h.data⟩
theorem Sh.heldA {E : World → Prop} (h : Sh S w0 w H (fun w => E w ∧ D w)) : Held H D w := ⟨h.facts, h.data.2⟩
theorem Sh.heldA1 {E : World → Prop} {x : Blk} (h : Sh S w0 w (x :: H) (fun w => E w ∧ D w)) : Held H D w := ⟨h.facts.2, h.data.2⟩
theorem Sh.heldA2 {E : World → Prop} {x y : Blk} (h : Sh S w0 w (x :: y :: H) (fun w => E w ∧ D w)) : Held H D w := ⟨h.facts.2.2, h.data.2⟩

theorem region_sh {id : Nat} {ops : Array Oper} (hm : P.follows .mixedOrders = true) (sh : Sh S w0 w H D)
    (k : ∀ w', Sh S w0 w' H D → wpAnyH P .any ops Q (Held H D) ops.size (Array.replicate ops.size false) a w') : (Code.region id ops true).wp P Q a w :=
  wp_region_held hm (k _ sh.drew)

theorem take {ops : Array Oper} {M : World → Prop} {md : Region.Mode} {i : Nat} {oi : Oper} {v : Value} {fuel : Nat} {listed : Array Bool} (hi : ops[i]? = some oi)
    (hs : Region.noSelect ops = true) (hf : Region.free md ops listed i = true) (hr : (Region.ready md ops listed).contains i = true)
    (hQ : ∀ c a w, Q (.panic c) (a.put oi.dst v) w → Q (.panic c) a w) (hw : Region.wanted oi (yielded ops a.tmps) = true) (hS : M w) (hy : ∀ w, M w → (execOp a.eval oi).run P w = .ok (.value v) w)
    (h : wpAnyH P md ops Q M fuel (listed.setIfInBounds i true) (a.put oi.dst v) w) : wpAnyH P md ops Q M (fuel + 1) listed a w :=
  wpAnyH_take hi hs hf hr hQ (.inl ⟨hw, hy⟩) hS h
theorem skip {ops : Array Oper} {M : World → Prop} {md : Region.Mode} {i : Nat} {oi : Oper} {fuel : Nat} {listed : Array Bool} (hi : ops[i]? = some oi)
    (hs : Region.noSelect ops = true) (hf : Region.free md ops listed i = true) (hr : (Region.ready md ops listed).contains i = true)
    (hQ : ∀ c a w, Q (.panic c) (a.put oi.dst undef) w → Q (.panic c) a w) (hw : Region.wanted oi (yielded ops a.tmps) = false) (hS : M w)
    (h : wpAnyH P md ops Q M fuel (listed.setIfInBounds i true) (a.put oi.dst undef) w) : wpAnyH P md ops Q M (fuel + 1) listed a w :=
  wpAnyH_take hi hs hf hr hQ (.inr ⟨hw, rfl⟩) hS h

/-- Whichever of these comes up. -/
def Each (P : Program) (ops : Array Oper) (Q : Exit → Act → World → Prop) (K : Nat → Act → World → Prop) (a : Act) (w : World) (rs : List Nat) : Prop := ∀ i ∈ rs, wpOp P ops Q i (K i) a w
theorem Each.nil {ops : Array Oper} {K : Nat → Act → World → Prop} : Each P ops Q K a w [] := fun _ h => by cases h
theorem Each.cons {ops : Array Oper} {K : Nat → Act → World → Prop} {i : Nat} {rs : List Nat} (h : wpOp P ops Q i (K i) a w) (hs : Each P ops Q K a w rs) : Each P ops Q K a w (i :: rs) := fun j hj => by
  rcases List.mem_cons.1 hj with rfl | hj
  · exact h
  · exact hs j hj
theorem branch {ops : Array Oper} {M : World → Prop} {md : Region.Mode} {fuel : Nat} {listed : Array Bool} (rs : List Nat) (hr : Region.ready md ops listed = rs) (hne : rs ≠ [])
    (h : Each P ops Q (fun i a' w' => M w' ∧ wpAnyH P md ops Q M fuel (listed.setIfInBounds i true) a' w') a w rs) : wpAnyH P md ops Q M (fuel + 1) listed a w :=
  wpAnyH_all hr hne h
theorem op_step {ops : Array Oper} {M : World → Prop} {G : Act → World → Prop} {i : Nat} {o : Oper} (ho : ops[i]? = some o) (hw : Region.wanted o (yielded ops a.tmps) = true)
    (h : ∀ K : Act → World → Prop, (∀ a w, M w → G a w → K a w) → Oper.wp P o a w K Q) : wpOp P ops Q i (fun a' w' => M w' ∧ G a' w') a w := by
  unfold wpOp
  rw [ho]
  show if Region.wanted o (yielded ops a.tmps) = true then _ else _
  rw [if_pos hw]
  exact .inl (h _ (fun a w h1 h2 => ⟨h1, h2⟩))
end

end Mem
end Go.Proofs.Ytkcpmghlndnfbaa
