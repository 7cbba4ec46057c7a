
/-
  The memory of a walk as one fact: the blocks that it owns, each with its cells, and data that no store to them can turn. Rules for the operations that make or write memory.
-/
import Derived.Test.YtfcffglgkblidaaDoorBase
import Derived.Deep.MidRow
import Derived.OrdersHeld
import Derived.Laws.OwnMore
import Derived.Laws.Append
import Derived.Laws.ResultCell
import Derived.Laws.CopyOwn
import Derived.Deep.CutRange
import Derived.Deep.DeepFit
import Derived.Deep.Slices
namespace Go.Proofs.YtfcffglgkblidaaDoor
open Go.RowKit
set_option linter.unusedVariables false
set_option linter.unusedSimpArgs false

namespace Hp
theorem p1 {α : Type _} (l : List α) (i : Nat) (x : α) : l.toArray.setIfInBounds i x = (l.set i x).toArray := List.setIfInBounds_toArray ..
theorem p2 {α : Type _} (l : List α) (y x : α) : (y :: l).set 0 x = x :: l := rfl
theorem p3 {α : Type _} (l : List α) (y x : α) (n : Nat) : (y :: l).set (n + 1) x = y :: l.set n x := rfl
theorem c1 {α : Type _} (l m : List α) (x : α) : (x :: l) ++ m = x :: (l ++ m) := rfl
theorem c2 {α : Type _} (l : List α) : [] ++ l = l := rfl

/-- What was there is there, but for the blocks of S. -/
def Off (S : Nat → Prop) (w w' : World) : Prop := w.heap.size ≤ w'.heap.size ∧ ∀ b, b < w.heap.size → ¬ S b → w'.heap[b]? = w.heap[b]?
theorem Off.refl (S : Nat → Prop) (w : World) : Off S w w := ⟨Nat.le_refl _, fun _ _ _ => rfl⟩
theorem Off.trans {S : Nat → Prop} {a b c : World} (h : Off S a b) (k : Off S b c) : Off S a c :=
  ⟨Nat.le_trans h.1 k.1, fun i hi hs => (k.2 i (Nat.lt_of_lt_of_le hi h.1) hs).trans (h.2 i hi hs)⟩
theorem Off.mono {S S' : Nat → Prop} {a b : World} (h : Off S a b) (hs : ∀ i, i < a.heap.size → S i → S' i) : Off S' a b := ⟨h.1, fun i hi hn => h.2 i hi (fun k => hn (hs i hi k))⟩
theorem Off.below {S : Nat → Prop} {a b : World} (h : Below a.heap.size a b) : Off S a b := ⟨h.size, fun i hi _ => h.block i hi⟩

/-- F holds, and whatever is done off S, it holds still. -/
def Rob (S : Nat → Prop) (w : World) (F : World → Prop) : Prop := ∀ w', Off S w w' → F w'
theorem Rob.here {S : Nat → Prop} {w : World} {F : World → Prop} (h : Rob S w F) : F w := h w (Off.refl _ _)
theorem Rob.off {S : Nat → Prop} {w w' : World} {F : World → Prop} (h : Rob S w F) (k : Off S w w') : Rob S w' F := fun w'' k' => h w'' (k.trans k')
theorem Rob.below {S : Nat → Prop} {w w' : World} {F : World → Prop} (h : Rob S w F) (k : Below w.heap.size w w') : Rob S w' F := h.off (Off.below k)
theorem Rob.and {S : Nat → Prop} {w : World} {F G : World → Prop} (h : Rob S w F) (k : Rob S w G) : Rob S w (fun w => F w ∧ G w) := fun w' o => ⟨h w' o, k w' o⟩
theorem Rob.imp {S : Nat → Prop} {w : World} {F G : World → Prop} (h : Rob S w F) (k : ∀ w, F w → G w) : Rob S w G := fun w' o => k w' (h w' o)
theorem Rob.mono {S S' : Nat → Prop} {w : World} {F : World → Prop} (h : Rob S w F) (k : ∀ i, i < w.heap.size → S' i → S i) : Rob S' w F := fun w' o => h w' (o.mono k)

theorem keptH {W W' : World} {i : Nat} {o : Obj} (hb : Below W.heap.size W W') (h : W.heap[i]? = some o) : W'.heap[i]? = some o := by
  rw [hb.block i (Array.getElem?_eq_some_iff.1 h).1]; exact h
theorem keptA {W : World} {i : Nat} {o x : Obj} (h : W.heap[i]? = some o) : (W.alloc x).heap[i]? = some o := by
  have hl := (Array.getElem?_eq_some_iff.1 h).1
  rw [← h]; exact heap_alloc_old W x hl
theorem boxH {W : World} {i : Nat} {cur : Array Value} {t : TypeId} {fr : Nat × Nat} (h : W.heap[i]? = some (.cells cur t fr)) (j : Nat) {v : Value} (hv : cur[j]? = some v) : W.cell? ⟨i, j, none⟩ = some v := by
  simp [World.cell?, h, hv]
theorem boxF {W : World} {i : Nat} {cur : Array Value} {t : TypeId} (h : W.heap[i]? = some (.cells cur t (0, 0))) (j : Nat) : W.frozen? ⟨i, j, none⟩ = false := by
  simp [World.frozen?, h]

abbrev Blk := Nat × Array Value × TypeId
def In (H : List Blk) (b : Nat) : Prop := b ∈ H.map (·.1)

/-- The memory of a walk that began at w0: nothing that was there has turned; the blocks H are there, apart from one another; and D holds, whatever is stored into them. -/
structure Sh (w0 w : World) (H : List Blk) (D : World → Prop) : Prop where
  below : Below w0.heap.size w0 w
  nodup : (H.map (·.1)).Nodup
  ge : ∀ x ∈ H, w0.heap.size ≤ x.1
  own : ∀ x ∈ H, w.heap[x.1]? = some (.cells x.2.1 x.2.2 (0, 0))
  rob : Rob (In H) w D

section
variable {w0 w w' : World} {H : List Blk} {D : World → Prop}

theorem Sh.start (h : Rob (fun _ => False) w D) : Sh w w [] D :=
  ⟨Below.refl _ _, by simp, by simp, by simp, h.mono (fun i _ hi => by simp [In] at hi)⟩
theorem Sh.data (h : Sh w0 w H D) : D w := h.rob.here
theorem Sh.in_lt (h : Sh w0 w H D) : ∀ b, In H b → b < w.heap.size := by
  intro b hb
  obtain ⟨x, hx, rfl⟩ := List.mem_map.1 hb
  exact (Array.getElem?_eq_some_iff.1 (h.own x hx)).1
theorem Sh.call (h : Sh w0 w H D) (hb : Below w.heap.size w w') : Sh w0 w' H D :=
  ⟨below_step h.below hb, h.nodup, h.ge, fun x hx => keptH hb (h.own x hx), h.rob.below hb⟩
theorem Sh.drew (h : Sh w0 w H D) : Sh w0 w.drew H D := h.call ((Below.refl _ _).drew)
theorem Sh.drewN (h : Sh w0 w H D) (n : Nat) : Sh w0 (w.drewN n) H D := h.call (bdrewN (Below.refl _ _) n)
theorem Sh.imp {E : World → Prop} (h : Sh w0 w H D) (k : ∀ w, D w → E w) : Sh w0 w H E := ⟨h.below, h.nodup, h.ge, h.own, h.rob.imp k⟩
theorem Sh.add {E : World → Prop} (h : Sh w0 w H D) (k : Rob (In H) w E) : Sh w0 w H (fun w => E w ∧ D w) := ⟨h.below, h.nodup, h.ge, h.own, k.and h.rob⟩

/-- A block more, newly made. -/
theorem Sh.adopt (h : Sh w0 w H D) (hb : Below w.heap.size w w') {g : Nat} {c : Array Value} {t : TypeId} (hg : w.heap.size ≤ g) (hc : w'.heap[g]? = some (.cells c t (0, 0))) : Sh w0 w' ((g, c, t) :: H) D := by
  have k := h.call hb
  refine ⟨k.below, ?_, ?_, ?_, ?_⟩
  · rw [List.map_cons, List.nodup_cons]
    exact ⟨fun hm => by have := h.in_lt g hm; omega, h.nodup⟩
  · intro x hx
    rcases List.mem_cons.1 hx with rfl | hx
    · exact Nat.le_trans h.below.size hg
    · exact h.ge x hx
  · intro x hx
    rcases List.mem_cons.1 hx with rfl | hx
    · exact hc
    · exact k.own x hx
  · intro w'' ho
    refine h.rob w'' ⟨Nat.le_trans hb.size ho.1, fun b hb' hs => ?_⟩
    rw [ho.2 b (Nat.lt_of_lt_of_le hb' hb.size) (fun q => ?_)]
    · exact hb.block b hb'
    · unfold In at q
      rw [List.map_cons, List.mem_cons] at q
      rcases q with rfl | q
      · omega
      · exact hs q
theorem Sh.alloc (h : Sh w0 w H D) (c : Array Value) (t : TypeId) : Sh w0 (w.alloc (.cells c t)) ((w.heap.size, c, t) :: H) D :=
  h.adopt ((Below.refl _ _).alloc (Nat.le_refl _) _) (Nat.le_refl _) (heap_alloc_new w _)
theorem Sh.allocD (h : Sh w0 w H D) (c : Array Value) (t : TypeId) : Sh w0 (w.drew.alloc (.cells c t)) ((w.heap.size, c, t) :: H) D := h.drew.alloc c t

/-- One of its blocks is turned. -/
theorem Sh.turn (h : Sh w0 w H D) {i b : Nat} {c c' : Array Value} {t : TypeId} (hi : H[i]? = some (b, c, t)) (e1 : w'.os = w.os) (e2 : w'.tape = w.tape) (e3 : w'.output = w.output) (e4 : w.heap.size ≤ w'.heap.size)
    (hb : w'.heap[b]? = some (.cells c' t (0, 0))) (ho : ∀ k, k < w.heap.size → k ≠ b → w'.heap[k]? = w.heap[k]?) : Sh w0 w' (H.set i (b, c', t)) D := by
  have hm : (b, c, t) ∈ H := List.mem_of_getElem? hi
  have hb0 : w0.heap.size ≤ b := h.ge _ hm
  have hmap : (H.set i (b, c', t)).map (·.1) = H.map (·.1) := by
    apply List.ext_getElem?
    intro k
    simp only [List.getElem?_map, List.getElem?_set]
    split
    · rename_i e
      subst e
      obtain ⟨hl, he⟩ := List.getElem?_eq_some_iff.1 hi
      simp [hl, he]
    · rfl
  refine ⟨h.below.trans ⟨e1, e2, e3, e4, fun k hk => ho k (Nat.lt_of_lt_of_le hk h.below.size) (by omega)⟩, by rw [hmap]; exact h.nodup, ?_, ?_, ?_⟩
  · intro x hx
    rcases List.mem_or_eq_of_mem_set hx with hx | rfl
    · exact h.ge x hx
    · exact hb0
  · intro x hx
    obtain ⟨k, hk⟩ := List.getElem?_of_mem hx
    rw [List.getElem?_set] at hk
    split at hk
    · rename_i e
      subst e
      split at hk
      · simp only [Option.some.injEq] at hk
        subst hk
        exact hb
      · cases hk
    · rename_i hne
      have hxm : x ∈ H := List.mem_of_getElem? hk
      have hbx : x.1 ≠ b := by
        intro e
        have h1 : (H.map (·.1))[k]? = some b := by simp [hk, e]
        have h2 : (H.map (·.1))[i]? = some b := by simp [hi]
        obtain ⟨l1, e1⟩ := List.getElem?_eq_some_iff.1 h1
        obtain ⟨l2, e2⟩ := List.getElem?_eq_some_iff.1 h2
        exact hne ((List.getElem_inj h.nodup).1 (e2.trans e1.symm))
      have h3 := h.own x hxm
      rw [ho x.1 (Array.getElem?_eq_some_iff.1 h3).1 hbx]
      exact h3
  · intro w'' hof
    refine h.rob w'' ⟨Nat.le_trans e4 hof.1, fun k hk hs => ?_⟩
    rw [hof.2 k (Nat.lt_of_lt_of_le hk e4) (fun q => hs (by unfold In at q; rw [hmap] at q; exact q))]
    refine ho k hk (fun e => hs ?_)
    subst e
    exact List.mem_map.2 ⟨_, hm, rfl⟩

theorem setCell_heap (w : World) (b j : Nat) (v : Value) (c : Array Value) (t : TypeId) (fr : Nat × Nat) (h : w.heap[b]? = some (.cells c t fr)) : (w.setCell ⟨b, j, none⟩ v).heap[b]? = some (.cells (c.setIfInBounds j v) t fr) := by
  simp [World.setCell, Array.getElem?_modify, h]
theorem Sh.set (h : Sh w0 w H D) (i b : Nat) (c : Array Value) (t : TypeId) (hi : H[i]? = some (b, c, t)) (j : Nat) (v : Value) : Sh w0 (w.setCell ⟨b, j, none⟩ v) (H.set i (b, c.setIfInBounds j v, t)) D :=
  h.turn hi rfl rfl rfl (by simp) (setCell_heap w b j v c t (0, 0) (h.own _ (List.mem_of_getElem? hi))) (fun k _ hk => Below.heap_setCell w _ v k hk)
theorem Sh.row (h : Sh w0 w H D) (i b : Nat) (c c' : Array Value) (t : TypeId) (hi : H[i]? = some (b, c, t)) : Sh w0 (w.setRow b c') (H.set i (b, c', t)) D :=
  h.turn hi rfl rfl rfl (by simp [World.setRow]) (setRow_heap w b c c' t (0, 0) (h.own _ (List.mem_of_getElem? hi))) (fun k _ hk => setRow_other w b k c' hk)

/-- Blocks are let go. -/
theorem Sh.sub {H' : List Blk} (h : Sh w0 w H D) (hs : H'.Sublist H) : Sh w0 w H' D :=
  ⟨h.below, List.Nodup.sublist (hs.map _) h.nodup, fun y hy => h.ge y (hs.subset hy), fun y hy => h.own y (hs.subset hy), h.rob.mono (fun i _ hi => (hs.map _).subset hi)⟩
theorem Sh.drop1 {x : Blk} (h : Sh w0 w (x :: H) D) : Sh w0 w H D := h.sub (List.sublist_cons_self _ _)
theorem Sh.drop2 {x y : Blk} (h : Sh w0 w (x :: y :: H) D) : Sh w0 w H D := h.drop1.drop1
theorem Sh.drop3 {x y z : Blk} (h : Sh w0 w (x :: y :: z :: H) D) : Sh w0 w H D := h.drop1.drop1.drop1
theorem Sh.dropA {R : List Blk} (h : Sh w0 w (R ++ H) D) : Sh w0 w H D := h.sub (List.sublist_append_right _ _)

theorem Sh.perm {H' : List Blk} (h : Sh w0 w H D) (p : H.Perm H') : Sh w0 w H' D :=
  ⟨h.below, ((p.map _).nodup_iff).1 h.nodup, fun x hx => h.ge x (p.mem_iff.2 hx), fun x hx => h.own x (p.mem_iff.2 hx), h.rob.mono fun i _ hi => ((p.map _).mem_iff).2 hi⟩
theorem Sh.front {A R : List Blk} (h : Sh w0 w (A ++ R) D) : Sh w0 w (R ++ A) D := h.perm List.perm_append_comm

/-- The cells of a block, as facts. -/
def CellsAt (w : World) (b : Nat) : Nat → List Value → Prop
  | _, [] => True
  | j, v :: r => w.cell? ⟨b, j, none⟩ = some v ∧ CellsAt w b (j + 1) r
def Facts (w : World) : List Blk → Prop
  | [] => True
  | (b, c, _) :: r => (CellsAt w b 0 c.toList ∧ ∀ j, w.frozen? ⟨b, j, none⟩ = false) ∧ Facts w r
theorem cellsAt (w : World) (b : Nat) (c : Array Value) (t : TypeId) (fr : Nat × Nat) (h : w.heap[b]? = some (.cells c t fr)) : ∀ (l : List Value) (j : Nat), (∀ i v, l[i]? = some v → c[j + i]? = some v) → CellsAt w b j l
  | [], _, _ => trivial
  | v :: r, j, hl => ⟨boxH h j (by simpa using hl 0 v rfl), cellsAt w b c t fr h r (j + 1) (fun i u hu => by
      have := hl (i + 1) u (by simpa using hu)
      rw [show j + 1 + i = j + (i + 1) by omega]; exact this)⟩
theorem Sh.facts (h : Sh w0 w H D) : Facts w H := by
  have key : ∀ L : List Blk, (∀ x ∈ L, x ∈ H) → Facts w L := by
    intro L
    induction L with
    | nil => intro _; trivial
    | cons x r ih =>
      intro hm
      obtain ⟨b, c, t⟩ := x
      have h1 := h.own (b, c, t) (hm _ (by simp))
      exact ⟨⟨cellsAt w b c t (0, 0) h1 c.toList 0 (fun i v hv => by simpa using hv), fun j => boxF h1 j⟩, ih (fun y hy => hm y (by simp [hy]))⟩
  exact key H (fun _ h => h)
end

/-! ### Rows -/
/-- The cells behind the address of a slice. -/
def RdV (W : World) (s : Option Addr) (vs : List Value) : Prop := 0 < vs.length → ∃ p, s = some p ∧ ∀ i v, vs[i]? = some v → W.cell? (p.add i) = some v
/-- The facts of the blocks, opened. -/
theorem Sh.fx {w0 w : World} {H : List Blk} {D : World → Prop} {F : Prop} (h : Sh w0 w H D) (e : Facts w H = F := by ((try simp only [Hp.Facts, Hp.CellsAt, Nat.reduceAdd, Hp.c1, Hp.c2]); (try rfl))) : F := e ▸ h.facts
theorem RdV.nil (W : World) (s : Option Addr) : RdV W s [] := fun h => by simp at h
theorem RdV.cell {W : World} {p : Addr} {vs : List Value} (h : RdV W (some p) vs) (i : Nat) {v : Value} (hv : vs[i]? = some v) : W.cell? (p.add i) = some v := by
  obtain ⟨q, hq, hc⟩ := h (by have := (List.getElem?_eq_some_iff.1 hv).1; omega)
  obtain rfl : p = q := by simpa using hq
  exact hc i _ hv
theorem add_head (g i : Nat) : (⟨g, 0, none⟩ : Addr).add i = ⟨g, i, none⟩ := by unfold Addr.add; split <;> simp_all
theorem RdV.ofRow {W : World} {g : Nat} {cur : Array Value} {t : TypeId} {fr : Nat × Nat} {vs : List Value} (hg : W.heap[g]? = some (.cells cur t fr)) (hcur : ∀ (i : Nat) (v : Value), vs[i]? = some v → cur[i]? = some v) : RdV W (some ⟨g, 0, none⟩) vs := by
  intro _
  refine ⟨_, rfl, fun i z hz => ?_⟩
  rw [add_head]
  exact boxH hg i (hcur i z hz)
theorem Rob.row {S : Nat → Prop} {W : World} {g : Nat} {cur : Array Value} {t : TypeId} {fr : Nat × Nat} {vs : List Value} (hg : W.heap[g]? = some (.cells cur t fr)) (hcur : ∀ (i : Nat) (v : Value), vs[i]? = some v → cur[i]? = some v) (hn : ¬ S g) : Rob S W (fun W => RdV W (some ⟨g, 0, none⟩) vs) := by
  intro W' ho
  exact RdV.ofRow ((ho.2 g (Array.getElem?_eq_some_iff.1 hg).1 hn).trans hg) hcur
theorem RdV.below {W W' : World} {s : Option Addr} {vs : List Value} (h : RdV W s vs) {S : Nat → Prop} (ho : Off S W W') (hS : ∀ p, s = some p → ¬ S p.block) : RdV W' s vs := by
  intro hp
  obtain ⟨p, hs, hc⟩ := h hp
  refine ⟨p, hs, fun i z hz => ?_⟩
  have h1 := hc i z hz
  have e : (p.add i).block = p.block := by unfold Addr.add; split <;> rfl
  have hl := World.block_lt_of_cell? W _ h1
  unfold World.cell? at h1 ⊢
  rw [e] at h1 hl ⊢
  rw [ho.2 _ hl (hS p hs)]; exact h1

/-- A slice that the walk makes by append: nil, or the head of a block of its own; n elements of some size, their cells xs. -/
def RowIs (e : TypeId) (size : Nat) (v : Value) (n : Nat) (xs : List Value) (R : List Blk) : Prop :=
  xs.length = n * size ∧ ((v = .slice none 0 0 ∧ n = 0 ∧ R = []) ∨
    ∃ g cap cur, v = .slice (some ⟨g, 0, none⟩) n cap ∧ R = [(g, cur, e)] ∧ n ≤ cap ∧ cap ≤ maxLen ∧ cur.size = cap * size ∧ cur.toList.take (n * size) = xs)
theorem RowIs.nil (e : TypeId) (size : Nat) : RowIs e size (.slice none 0 0) 0 [] [] := ⟨by simp, .inl ⟨rfl, rfl, rfl⟩⟩
theorem RowIs.slice {e : TypeId} {size : Nat} {v : Value} {n : Nat} {xs : List Value} {R : List Blk} (h : RowIs e size v n xs R) : ∃ s cap, v = .slice s n cap ∧ (s = none → n = 0 ∧ cap = 0) ∧ n ≤ cap ∧ cap ≤ maxLen := by
  rcases h.2 with ⟨rfl, rfl, _⟩ | ⟨g, cap, cur, rfl, _, h1, h2, _⟩
  · exact ⟨none, 0, rfl, fun _ => ⟨rfl, rfl⟩, by simp, by simp [maxLen]⟩
  · exact ⟨_, cap, rfl, (fun h => by cases h), h1, h2⟩

section
variable {w0 w w' : World} {H R : List Blk} {D : World → Prop}

theorem Sh.ownsRow (h : Sh w0 w (R ++ H) D) {e : TypeId} {size : Nat} {v : Value} {n : Nat} {xs : List Value} (hr : RowIs e size v n xs R) : w.ownsRow w0.heap.size e size v n xs := by
  refine ⟨hr.1, ?_⟩
  rcases hr.2 with ⟨rfl, rfl, rfl⟩ | ⟨g, cap, cur, rfl, rfl, h1, h2, h3, h4⟩
  · exact .inl ⟨rfl, rfl⟩
  · exact .inr ⟨g, cap, cur, rfl, h.ge (g, cur, e) (by simp), h.own (g, cur, e) (by simp), h1, h2, h3, h4⟩
/-- What the row holds, as data: its block is let go. -/
theorem Sh.freeze (h : Sh w0 w (R ++ H) D) {e : TypeId} {size : Nat} {s : Option Addr} {cap : Nat} {n : Nat} {xs : List Value} (hr : RowIs e size (.slice s n cap) n xs R) : Sh w0 w H (fun W => RdV W s xs ∧ D W) := by
  refine h.dropA.add ?_
  rcases hr.2 with ⟨hv, rfl, rfl⟩ | ⟨g, c, cur, hv, rfl, h1, h2, h3, h4⟩
  · obtain rfl : xs = [] := List.eq_nil_of_length_eq_zero (by simpa using hr.1)
    exact fun _ _ => RdV.nil _ _
  · simp only [Value.slice.injEq] at hv
    obtain ⟨rfl, _, rfl⟩ := hv
    have hnd := h.nodup
    rw [List.map_append, List.map_cons, List.map_nil, List.singleton_append, List.nodup_cons] at hnd
    refine Rob.row (h.own (g, cur, e) (by simp)) (fun i v hv => ?_) hnd.1
    rw [← h4, List.getElem?_take] at hv
    split at hv
    · simpa using hv
    · cases hv
/-- A whole block, as data. -/
theorem Sh.freeze1 {g : Nat} {c : Array Value} {t : TypeId} (h : Sh w0 w ((g, c, t) :: H) D) {vs : List Value} (hc : ∀ (i : Nat) (v : Value), vs[i]? = some v → c[i]? = some v) : Sh w0 w H (fun W => RdV W (some ⟨g, 0, none⟩) vs ∧ D W) := by
  refine h.drop1.add ?_
  have hnd := h.nodup
  rw [List.map_cons, List.nodup_cons] at hnd
  exact Rob.row (h.own (g, c, t) (by simp)) hc hnd.1
theorem Sh.cells (h : Sh w0 w (R ++ H) D) {e : TypeId} {size : Nat} {s : Option Addr} {cap : Nat} {n : Nat} {xs : List Value} (hr : RowIs e size (.slice s n cap) n xs R) : RdV w s xs := (h.freeze hr).data.1
theorem row_made {e : TypeId} {size cap : Nat} {g : Nat} {cur : Array Value} (hm : cap ≤ maxLen) (hs : cur.size = cap * size) : RowIs e size (.slice (some ⟨g, 0, none⟩) 0 cap) 0 [] [(g, cur, e)] :=
  ⟨by simp, .inr ⟨g, cap, cur, rfl, rfl, Nat.zero_le _, hm, hs, by simp⟩⟩
theorem row_full {e : TypeId} {size n : Nat} {g : Nat} {cur : Array Value} (hm : n ≤ maxLen) (hs : cur.size = n * size) : RowIs e size (.slice (some ⟨g, 0, none⟩) n n) n cur.toList [(g, cur, e)] :=
  ⟨by simpa using hs, .inr ⟨g, n, cur, rfl, rfl, Nat.le_refl _, hm, hs, by rw [← hs, ← Array.length_toList, List.take_length]⟩⟩
end

/-! ### Operations -/
def putCells (c : Array Value) : Nat → List Value → Array Value
  | _, [] => c
  | o, v :: r => putCells (c.setIfInBounds o v) (o + 1) r
attribute [go_sem] putCells
/-- Is each of these one cell? -/
def ones : List Value → Bool
  | [] => true
  | v :: r => v.oneCell' && ones r
theorem ones_mem : ∀ {l : List Value}, ones l = true → ∀ v ∈ l, v.oneCell' = true
  | [], _, _, hv => by cases hv
  | u :: r, h, v, hv => by
    simp only [ones, Bool.and_eq_true] at h
    rcases List.mem_cons.1 hv with rfl | hv
    · exact h.1
    · exact ones_mem h.2 v hv

section
variable {P : Program} {w0 w : World} {H : List Blk} {D : World → Prop} {dst : Option Tmp} {ty : TypeId} {pos : String} {af : Array Edge} {g : Option (Nat × Bool)} {a : Act} {K : Act → World → Prop} {Q : Exit → Act → World → Prop}

theorem Sh.sets (b : Nat) (t : TypeId) (i : Nat) : ∀ (vs : List Value) (o : Nat) (c : Array Value) (w : World) (H : List Blk), Sh w0 w H D → H[i]? = some (b, c, t) → Sh w0 (w.setCells b o vs) (H.set i (b, putCells c o vs, t)) D
  | [], _, c, w, H, h, hi => by
    have e : H.set i (b, c, t) = H := by
      obtain ⟨hl, he⟩ := List.getElem?_eq_some_iff.1 hi
      rw [← he]; exact List.set_getElem_self hl
    simp only [World.setCells, putCells, e]; exact h
  | v :: r, o, c, w, H, h, hi => by
    have hl := (List.getElem?_eq_some_iff.1 hi).1
    have h1 := h.set i b c t hi o v
    have h2 := Sh.sets b t i r (o + 1) (c.setIfInBounds o v) _ _ h1 (by simp [List.getElem?_set, hl])
    rw [List.set_set] at h2
    exact h2

theorem wp_box {T : TypeId} {x : Operand} (sh : Sh w0 w H D) (k : ∀ b w', Sh w0 w' ((b, (a.eval x).cells, T) :: H) D → K (a.put dst (.pointer (some ⟨b, 0, none⟩))) w') :
    Oper.wp P ⟨dst, .box T x, ty, pos, af, g⟩ a w K Q := by
  have := k _ _ (sh.alloc (a.eval x).cells T)
  simpa [Oper.wp, execOp, Instr.box, newVar, newRow, newObj, Oper.upon, Result.andThen, Sem.run] using this
theorem wp_alloc {T : TypeId} {z : Value} (hz : ∀ W, (zeroValue T).run P W = .ok z W) (sh : Sh w0 w H D) (k : ∀ b w', Sh w0 w' ((b, z.cells, T) :: H) D → K (a.put dst (.pointer (some ⟨b, 0, none⟩))) w') :
    Oper.wp P ⟨dst, .alloc T, ty, pos, af, g⟩ a w K Q := by
  have := k _ _ (sh.alloc z.cells T)
  simpa [Oper.wp, execOp, Instr.alloc, newVar, newRow, newObj, Oper.upon, Result.andThen, Sem.run, hz] using this

theorem run_store {T : TypeId} (i : Nat) {b o n : Nat} {c : Array Value} {t : TypeId} {v : Value} (sh : Sh w0 w H D) (hi : H[i]? = some (b, c, t)) (hn : v.cells.size = n)
    (hsz : (P.info? T).map (·.size) = some n) (hfit : o + n ≤ c.size) (h1 : ones v.cells.toList = true) :
    (Instr.storeAt T (.pointer (some ⟨b, o, none⟩)) v).run P w = .ok () (w.setCells b o v.cells.toList) := by
  have hm : (b, c, t) ∈ H := List.mem_of_getElem? hi
  have hb := sh.own _ hm
  have hrun := run_storeCells_cells (P := P) b o v.cells.toList 0 w (fun j hj => by
      have hj' : o + j < c.size := by simp at hj; omega
      rw [Nat.add_zero, boxH hb (o + j) (Array.getElem?_eq_getElem hj')]; rfl) (fun j _ => boxF hb _) (ones_mem h1)
  simp only [Nat.add_zero] at hrun
  cases hq : P.info? T with
  | none => simp [hq] at hsz
  | some q =>
    have hs : q.size = n := by simpa [hq] using hsz
    simp [Instr.storeAt, Instr.sureAddr, storeVar, sizeOf, typeInfo, hq, hs, hn, hrun]
theorem at_store {T : TypeId} {x y : Operand} (h : Oper.wp P ⟨dst, .store T x y, ty, pos, af, g⟩ a w K Q) : Oper.wp P ⟨dst, .store T x y, ty, pos, af, g⟩ a w K Q := h
theorem wp_store {T : TypeId} {x y : Operand} (i : Nat) {b o n : Nat} {c : Array Value} {t : TypeId} {v : Value} (sh : Sh w0 w H D) (hx : a.eval x = .pointer (some ⟨b, o, none⟩)) (hi : H[i]? = some (b, c, t)) (hv : a.eval y = v)
    (hn : v.cells.size = n) (hsz : (P.info? T).map (·.size) = some n) (hfit : o + n ≤ c.size) (h1 : ones v.cells.toList = true)
    (k : ∀ w', Sh w0 w' (H.set i (b, putCells c o v.cells.toList, t)) D → K (a.put dst undef) w') :
    Oper.wp P ⟨dst, .store T x y, ty, pos, af, g⟩ a w K Q := by
  have hrun := run_store (P := P) i (o := o) sh hi hn hsz hfit h1
  have := k _ (Sh.sets b t i v.cells.toList o c w H sh hi)
  simpa [Oper.wp, execOp, hx, hv, hrun, Oper.upon, Result.andThen] using this

/-- wp_store, its equations in one. -/
theorem ws {T : TypeId} {x y : Operand} (i : Nat) {b o n : Nat} {c : Array Value} {t : TypeId} {v : Value} (sh : Sh w0 w H D)
    (h : (a.eval x, H[i]?, a.eval y, v.cells.size, Nat.ble (o + n) c.size, ones v.cells.toList) = (.pointer (some ⟨b, o, none⟩), some (b, c, t), v, n, true, true)) (hsz : (P.info? T).map (·.size) = some n)
    (k : ∀ w', Sh w0 w' (H.set i (b, putCells c o v.cells.toList, t)) D → K (a.put dst undef) w') :
    Oper.wp P ⟨dst, .store T x y, ty, pos, af, g⟩ a w K Q := by
  simp only [Prod.mk.injEq] at h
  exact wp_store i sh h.1 h.2.1 h.2.2.1 h.2.2.2.1 hsz (Nat.le_of_ble_eq_true h.2.2.2.2.1) h.2.2.2.2.2 k

/-- A store into an own block, wherever it stands in the list (az, aw find it). -/
theorem wsA {T : TypeId} {x y : Operand} (i : Nat) (c : Array Value) (t : TypeId) {b o n : Nat} {v : Value} (sh : Sh w0 w H D) (h : (a.eval x, a.eval y, v.cells.size, ones v.cells.toList) = (.pointer (some ⟨b, o, none⟩), v, n, true))
    (hi : H[i]? = some (b, c, t)) (hfit : Nat.ble (o + n) c.size = true) (hsz : (P.info? T).map (·.size) = some n)
    (k : ∀ w', Sh w0 w' (H.set i (b, putCells c o v.cells.toList, t)) D → K (a.put dst undef) w') :
    Oper.wp P ⟨dst, .store T x y, ty, pos, af, g⟩ a w K Q := by
  simp only [Prod.mk.injEq] at h
  exact wp_store i sh h.1 hi h.2.1 h.2.2.1 hsz (Nat.le_of_ble_eq_true hfit) h.2.2.2 k
theorem az {x : Blk} {L : List Blk} : (x :: L)[0]? = some x := rfl
theorem aw {x y : Blk} {L : List Blk} {i : Nat} (h : L[i]? = some x) : (y :: L)[i + 1]? = some x := h
/-- The same, all looked for. -/
theorem wsB {T : TypeId} {x y : Operand} {i : Nat} {c : Array Value} {t : TypeId} {b o n : Nat} {v : Value} (sh : Sh w0 w H D)
    (k : ∀ w', Sh w0 w' (H.set i (b, putCells c o v.cells.toList, t)) D → K (a.put dst undef) w')
    (h : (a.eval x, a.eval y, v.cells.size, ones v.cells.toList) = (.pointer (some ⟨b, o, none⟩), v, n, true) := by exact rfl)
    (hi : H[i]? = some (b, c, t) := by (iterate 8 try first | exact Hp.az | apply Hp.aw)) (hfit : Nat.ble (o + n) c.size = true := by rfl) (hsz : (P.info? T).map (·.size) = some n := by kernel_rfl) :
    Oper.wp P ⟨dst, .store T x y, ty, pos, af, g⟩ a w K Q := wsA i c t sh h hi hfit hsz k

/-- make([]T, n), n elements that are zero. -/
theorem wp_make {T e : TypeId} {l c : Operand} {z : Value} {size bytes : Nat} (n : Nat) (hinfo : (P.info? e).map (fun i => (i.zero, i.size, i.bytes)) = some (some z, size, bytes)) (hT : P.underlying T = some (.slice e)) (hby : bytes ≤ 128)
    (sh : Sh w0 w H D) {m : Nat} {kl kc : IntKind} (hl : a.eval l = .int kl m) (hc : a.eval c = .int kc n) (hm : m ≤ n) (hn : n ≤ 1099511627776)
    (k : ∀ b w', Sh w0 w' ((b, madeCells z.cells (n * size), e) :: H) D → K (a.put dst (.slice (some ⟨b, 0, none⟩) m n)) w') :
    Oper.wp P ⟨dst, .makeSlice T l c, ty, pos, af, g⟩ a w K Q := by
  obtain ⟨i0, hi, hz0, hz1, hz2⟩ := info_parts hinfo
  subst hz1
  have h8 : (i0.bytes : Int) * (n : Int) ≤ 281474976710656 := by
    rw [hz2, ← Int.natCast_mul]
    have := Nat.mul_le_mul hby hn
    omega
  have hr := run_make (P := P) w T e i0 z hT hi hz0 kl kc m n (by omega) (by omega) h8 (by omega)
  simp only [Int.toNat_natCast] at hr
  have := k _ _ (sh.alloc (madeCells z.cells (n * i0.size)) e)
  simpa [Oper.wp, execOp, hl, hc, hr, Oper.upon, Result.andThen] using this

theorem fill_ones : ∀ (vs : List Value) (k : Nat) (cs : Array Value), (∀ v ∈ vs, v.oneCell' = true) → cs.size = k + vs.length →
    Instr.fill (fun i => some (i * 1, 1)) cs ((vs.zipIdx k).map fun p => (p.2, p.1)) = some (cs.toList.take k ++ vs).toArray
  | [], k, cs, _, hs => by
    simp only [List.zipIdx_nil, List.map_nil, Instr.fill, List.append_nil]
    congr 1
    apply Array.ext'
    simp only []
    rw [List.take_of_length_le (by simp at hs; simp; omega)]
  | v :: r, k, cs, h1, hs => by
    have hv : v.cells = #[v] := by
      have := h1 v (by simp)
      cases v <;> simp_all [Value.oneCell', Value.cells]
    have hk : k < cs.size := by simp at hs; omega
    simp only [List.zipIdx_cons, List.map_cons, Instr.fill, hv, Nat.mul_one]
    rw [if_neg (by simp; omega)]
    have ih := fill_ones r (k + 1) (cs.setIfInBounds k v) (fun u hu => h1 u (by simp [hu])) (by simp at hs ⊢; omega)
    have e : (List.foldl (fun (cs : Array Value) (x : Value × Nat) => match x with | (c, j) => cs.setIfInBounds (k + j) c) cs (#[v].zipIdx).toList) = cs.setIfInBounds k v := by simp
    simp only [Array.zipIdx, Nat.mul_one] at *
    have e2 : (Array.foldl (fun (cs : Array Value) (x : Value × Nat) => match x with | (c, j) => cs.setIfInBounds (k + j) c) cs (Array.mapIdx (fun i a => (a, 0 + i)) #[v])) = cs.setIfInBounds k v := by simp
    rw [e2, ih]
    congr 2
    rw [Array.toList_setIfInBounds]
    rw [List.take_succ_eq_append_getElem (by simpa using hk)]
    simp [List.take_set]
    exact List.set_eq_of_length_le (List.length_take_le _ _)

/-- A literal of elements that are one cell each. -/
theorem wp_lit {T e : TypeId} {z : Value} {bytes : Nat} (n : Nat) {parts : List (Nat × Operand)} (vs : List Value) (hinfo : (P.info? e).map (fun i => (i.zero, i.size, i.bytes)) = some (some z, 1, bytes)) (hT : P.underlying T = some (.slice e))
    (sh : Sh w0 w H D) (hp : (parts.map fun p => (p.1, a.eval p.2)) = ((vs.zipIdx 0).map fun p => (p.2, p.1))) (hn : vs.length = n) (hb : n ≤ 1000) (h1 : ones vs = true)
    (k : ∀ b w', Sh w0 w' ((b, vs.toArray, e) :: H) D → K (a.put dst (.slice (some ⟨b, 0, none⟩) n n)) w') :
    Oper.wp P ⟨dst, .buildSlice T n parts.toArray, ty, pos, af, g⟩ a w K Q := by
  obtain ⟨i0, hi, hz0, hz1, hz2⟩ := info_parts hinfo
  subst hn
  have hb' : ¬ (vs.length > 2 ^ 24) := by omega
  have hrun : (Instr.buildSlice T vs.length (parts.toArray.map fun p => (p.1, a.eval p.2))).run P w = .ok (.slice (some ⟨w.heap.size, 0, none⟩) vs.length vs.length) (w.alloc (.cells vs.toArray e)) := by
    rw [List.map_toArray, hp]
    have hf : ∀ cs : Array Value, cs.size = vs.length → Instr.fill (fun i => some (i * 1, 1)) cs ((vs.zipIdx 0).map fun p => (p.2, p.1)) = some vs.toArray := by
      intro cs hs
      have := fill_ones vs 0 cs (ones_mem h1) (by omega)
      simpa using this
    unfold Instr.buildSlice
    by_cases h0 : vs.length = 0
    · have hf0 := hf #[] (by simp [h0])
      simp [run_underlying hT, sizeOf, typeInfo, hi, hz1, h0, Array.range_zero', hf0, newRow] at hf0 ⊢
      simp [hf0, newRow]
    · have hf0 := hf (Array.map (fun x => z.cells[x % z.cells.size]!) (Array.range vs.length)) (by simp)
      simp [run_underlying hT, sizeOf, typeInfo, hi, hz1, h0, zeroValue, hz0, hb', hf0, newRow] at hf0 ⊢
      simp [hf0, newRow]
  rw [List.map_toArray] at hrun
  have := k _ _ (sh.alloc vs.toArray e)
  simpa [Oper.wp, execOp, hrun, Oper.upon, Result.andThen] using this

/-- append(s, x...), s a row of the walk's own. -/
theorem run_append {t e ty' : TypeId} {z : Value} {size bytes : Nat} (hinfo : (P.info? e).map (fun i => (i.zero, i.size, i.bytes)) = some (some z, size, bytes)) (hT : P.underlying t = some (.slice e)) (hby : bytes ≤ 64) (hzs : z.cells.size = size) (hsz : 0 < size)
    {R : List Blk} (sh : Sh w0 w (R ++ H) D) {v : Value} {n : Nat} {xs : List Value} (hr : RowIs e size v n xs R) {xp : Option Addr} {m c : Nat} {news : List Value}
    (hl : news.length = m * size) (hx : RdV w xp news) (hnone : xp = none → m = 0 ∧ c = 0) (h1 : ∀ u ∈ news, u.oneCell' = true) (hnm : n + m ≤ 1099511627776) :
    ∃ v' R' w', (Builtin.append_ #[t, t] ty' #[v, .slice xp m c]).run P w = .ok v' w' ∧ Sh w0 w' (R' ++ H) D ∧ RowIs e size v' (n + m) (xs ++ news) R' := by
  obtain ⟨i, hi, hz, hz1, hz2⟩ := info_parts hinfo
  subst hz1
  have hown := sh.ownsRow hr
  cases xp with
  | none =>
    obtain ⟨rfl, rfl⟩ := hnone rfl
    obtain rfl : news = [] := List.eq_nil_of_length_eq_zero (by simpa using hl)
    exact ⟨v, R, w, run_append_owned_none w _ t ty' e i i.size hT hi v n xs hown, sh, by simpa using hr⟩
  | some ad =>
    have hnews : ∀ j u, news[j]? = some u → w.cell? (ad.add j) = some u := fun j u hu => hx.cell j hu
    have hlen : (xs ++ news).length = (n + m) * i.size := by rw [List.length_append, hr.1, hl, Nat.add_mul]
    have hb : (n + m) * bytes ≤ 140737488355328 := by
      have := Nat.mul_le_mul hnm hby
      omega
    have grown : ∀ old : Nat, RowIs e i.size (.slice (some ⟨w.heap.size, 0, none⟩) (n + m) (grownCap w (n + m) old e)) (n + m) (xs ++ news) [(w.heap.size, xs.toArray ++ news.toArray ++ Builtin.zeroCells z.cells (grownCap w (n + m) old e - (n + m)), e)] := by
      intro old
      have hge := grownCap_ge w (n + m) old e
      have hcm : grownCap w (n + m) old e ≤ maxLen := grownCap_le_maxLen w (n + m) old e (by simp only [maxLen]; omega)
      refine ⟨hlen, .inr ⟨w.heap.size, _, _, rfl, rfl, hge, hcm, ?_, ?_⟩⟩
      · simp only [Array.size_append, List.size_toArray, size_zeroCells, hzs, hr.1, hl, ← Nat.add_mul]
        congr 1
        omega
      · simp only [Array.toList_append, List.append_assoc]
        rw [← List.append_assoc, ← hlen]
        exact List.take_left
    rcases hr.2 with ⟨rfl, rfl, rfl⟩ | ⟨g, cap, cur, rfl, rfl, hnc, hcm, hcs, htake⟩
    · obtain rfl : xs = [] := List.eq_nil_of_length_eq_zero (by simpa using hr.1)
      by_cases hm : m = 0
      · subst hm
        obtain rfl : news = [] := List.eq_nil_of_length_eq_zero (by simpa using hl)
        refine ⟨.slice none 0 0, [], w, ?_, sh, RowIs.nil _ _⟩
        simp [Builtin.append_, run_underlying hT, sizeOf, typeInfo, hi, Builtin.lenOf, Builtin.firstCells, loadCells, loadCellsFrom]
      · have hrun := run_append_nil (P := P) w t ty' e i z hT hi hz ad m c news hl hnews (by omega) (by omega) (by rw [hz2]; simp only [Nat.zero_add] at hb; omega)
        have hgr := grown 0
        simp only [Nat.zero_add, List.nil_append, Array.empty_append] at hgr ⊢
        exact ⟨_, _, _, hrun, sh.allocD _ _, hgr⟩
    · by_cases hroom : n + m ≤ cap
      · have hfit : n * i.size + news.length ≤ cur.size := by rw [hl, hcs, ← Nat.add_mul]; exact Nat.mul_le_mul_right _ hroom
        have hrun := run_append_room (P := P) w t ty' e i hT hi g n cap cur (sh.own (g, cur, e) (by simp)) ad m c news hl hnews h1 hroom hfit
        refine ⟨_, [(g, _, e)], _, hrun, sh.row 0 g cur _ e rfl, hlen, .inr ⟨g, cap, _, rfl, rfl, hroom, hcm, ?_, ?_⟩⟩
        · simp only [List.size_toArray, List.length_append, List.length_take, List.length_drop, Array.length_toList]
          omega
        · rw [htake, ← hlen]
          exact List.take_left
      · have holds : ∀ j u, xs[j]? = some u → w.cell? ((⟨g, 0, none⟩ : Addr).add j) = some u := hown.cells (g := g) rfl
        have hrun := run_append_grow (P := P) w t ty' e i z hT hi hz ⟨g, 0, none⟩ n cap xs hr.1 holds ad m c news hl hnews (by omega) (by omega) (growslice_fits (by omega) (by rw [hz2]; exact hb))
        exact ⟨_, _, _, hrun, sh.dropA.allocD _ _, grown cap⟩
theorem wp_append {t e : TypeId} {z : Value} {size bytes : Nat} (hinfo : (P.info? e).map (fun i => (i.zero, i.size, i.bytes)) = some (some z, size, bytes)) (hT : P.underlying t = some (.slice e)) (hby : bytes ≤ 64) (hzs : z.cells.size = size) (hsz : 0 < size)
    {R : List Blk} (sh : Sh w0 w (R ++ H) D) {v : Value} {n : Nat} {xs : List Value} (hr : RowIs e size v n xs R) {s x : Operand} (hs : a.eval s = v) {xp : Option Addr} {m c : Nat} {news : List Value} (hxe : a.eval x = .slice xp m c)
    (hl : news.length = m * size) (hx : RdV w xp news) (hnone : xp = none → m = 0 ∧ c = 0) (h1 : ∀ u ∈ news, u.oneCell' = true) (hnm : n + m ≤ 1099511627776)
    (k : ∀ v' R' w', Sh w0 w' (R' ++ H) D → RowIs e size v' (n + m) (xs ++ news) R' → K (a.put dst v') w') :
    Oper.wp P ⟨dst, .call { callee := .builtin .append, args := #[s, x], argTypes := #[t, t] }, ty, pos, af, g⟩ a w K Q := by
  obtain ⟨v', R', w', hrun, h2, h3⟩ := run_append (ty' := ty) hinfo hT hby hzs hsz sh hr hl hx hnone h1 hnm
  have := k _ _ _ h2 h3
  simpa [Oper.wp, execOp, resolve, invoke, builtin, hs, hxe, hrun, Oper.upon, Result.andThen] using this

theorem list_of {ops : Array Oper} {rest : List Oper} {o : Oper} (hw : Region.wanted o (yielded ops a.tmps) = true) (h : Oper.wp P o a w (wpList P ops Q rest) Q) : wpList P ops Q (o :: rest) a w := by
  unfold wpList
  rw [if_pos hw]
  exact .inl h
theorem wpl_box {ops : Array Oper} {rest : List Oper} {T : TypeId} {x : Operand} (sh : Sh w0 w H D) (hw : Region.wanted ⟨dst, .box T x, ty, pos, af, g⟩ (yielded ops a.tmps) = true)
    (k : ∀ b w', Sh w0 w' ((b, (a.eval x).cells, T) :: H) D → wpList P ops Q rest (a.put dst (.pointer (some ⟨b, 0, none⟩))) w') :
    wpList P ops Q (⟨dst, .box T x, ty, pos, af, g⟩ :: rest) a w := list_of hw (wp_box sh k)
theorem wpl_alloc {ops : Array Oper} {rest : List Oper} {T : TypeId} {z : Value} (hz : ∀ W, (zeroValue T).run P W = .ok z W) (sh : Sh w0 w H D) (hw : Region.wanted ⟨dst, .alloc T, ty, pos, af, g⟩ (yielded ops a.tmps) = true)
    (k : ∀ b w', Sh w0 w' ((b, z.cells, T) :: H) D → wpList P ops Q rest (a.put dst (.pointer (some ⟨b, 0, none⟩))) w') :
    wpList P ops Q (⟨dst, .alloc T, ty, pos, af, g⟩ :: rest) a w := list_of hw (wp_alloc hz sh k)
theorem wpa {ops : Array Oper} {rest : List Oper} {T : TypeId} {z : Value} (sh : Sh w0 w H D) (hw : Region.wanted ⟨dst, .alloc T, ty, pos, af, g⟩ (yielded ops a.tmps) = true)
    (k : ∀ b w', Sh w0 w' ((b, z.cells, T) :: H) D → wpList P ops Q rest (a.put dst (.pointer (some ⟨b, 0, none⟩))) w')
    (hz : ∀ W, (zeroValue T).run P W = .ok z W := by first | exact Tryd.z_ev | exact Tryd.z_dg | exact Tryd.z_bt | exact Tryd.z_insn | exact Tryd.z_blk | exact Tryd.z_part | exact Tryd.z_trap | exact Tryd.z_vm | exact Tryd.z_chan | exact Tryd.z_health | exact Tryd.z_qry | exact Tryd.z_line | exact Tryd.z_errno | exact Tryd.z_dig | exact Tryd.z_st | exact Tryd.z_names | exact Tryd.z_a64 | exact Tryd.z_plan | exact Tryd.z_bld | exact Tryd.z_a8 | exact Tryd.z_vmL | exact Tryd.z_take | exact Tryd.z_str | exact Tryd.z_sample | exact Tryd.z_row | exact Tryd.z_numA | exact Tryd.z_fn | exact Tryd.z_bool) :
    wpList P ops Q (⟨dst, .alloc T, ty, pos, af, g⟩ :: rest) a w := list_of hw (wp_alloc hz sh k)
theorem atl_store {ops : Array Oper} {rest : List Oper} {T : TypeId} {x y : Operand} (hw : Region.wanted ⟨dst, .store T x y, ty, pos, af, g⟩ (yielded ops a.tmps) = true)
    (h : Oper.wp P ⟨dst, .store T x y, ty, pos, af, g⟩ a w (wpList P ops Q rest) Q) : wpList P ops Q (⟨dst, .store T x y, ty, pos, af, g⟩ :: rest) a w := list_of hw h
/-- At a literal of a slice. -/
theorem atl_lit {ops : Array Oper} {rest : List Oper} {T : TypeId} {n : Nat} {ps : Array (Nat × Operand)} (hw : Region.wanted ⟨dst, .buildSlice T n ps, ty, pos, af, g⟩ (yielded ops a.tmps) = true)
    (h : Oper.wp P ⟨dst, .buildSlice T n ps, ty, pos, af, g⟩ a w (wpList P ops Q rest) Q) : wpList P ops Q (⟨dst, .buildSlice T n ps, ty, pos, af, g⟩ :: rest) a w := list_of hw h
/-- At a make. -/
theorem atl_make {ops : Array Oper} {rest : List Oper} {T : TypeId} {x y : Operand} (hw : Region.wanted ⟨dst, .makeSlice T x y, ty, pos, af, g⟩ (yielded ops a.tmps) = true)
    (h : Oper.wp P ⟨dst, .makeSlice T x y, ty, pos, af, g⟩ a w (wpList P ops Q rest) Q) : wpList P ops Q (⟨dst, .makeSlice T x y, ty, pos, af, g⟩ :: rest) a w := list_of hw h
/-- At an append to what slot s holds. -/
theorem atl_append (s : Tmp) {ops : Array Oper} {rest : List Oper} {x : Operand} {ts : Array TypeId} (hw : Region.wanted ⟨dst, .call { callee := .builtin .append, args := #[.tmp s, x], argTypes := ts }, ty, pos, af, g⟩ (yielded ops a.tmps) = true)
    (h : Oper.wp P ⟨dst, .call { callee := .builtin .append, args := #[.tmp s, x], argTypes := ts }, ty, pos, af, g⟩ a w (wpList P ops Q rest) Q) : wpList P ops Q (⟨dst, .call { callee := .builtin .append, args := #[.tmp s, x], argTypes := ts }, ty, pos, af, g⟩ :: rest) a w := list_of hw h

/-- A whole block, loaded. -/
theorem Sh.load {b : Nat} {c : Array Value} {t T : TypeId} (h : Sh w0 w H D) (i : Nat) (hi : H[i]? = some (b, c, t)) (hu : (P.underlying T).map (fun d => d.isRow) = some true) (hs : (P.info? T).map (·.size) = some c.size) : (loadVar T ⟨b, 0, none⟩).run P w = .ok (.agg c) w := by
  have hb := h.own _ (List.mem_of_getElem? hi)
  cases hq : P.underlying T with
  | none => simp [hq] at hu
  | some d =>
    have hd : d.isRow = true := by simpa [hq] using hu
    have h1 := run_loadVar_mid (P := P) w b 0 T c.toList d (fun j v hv => by rw [Nat.zero_add]; exact boxH hb j (by simpa using hv)) hq hd (by simpa using hs)
    simpa using h1
theorem res_c {fn : Func} {p b : Nat} {ty : TypeId} {v : Value} {tmps : Array Value} (h : fn.results = #[.cell p ty]) (hp : tmps.getD p undef = .pointer (some ⟨b, 0, none⟩)) (hl : (loadVar ty ⟨b, 0, none⟩).run P w = .ok v w) : (results fn tmps).run P w = .ok v w := by
  simp only [results, h]
  simp [Sem.run_bind, Result.andThen, hp, asAddr, hl, -Array.getD_eq_getD_getElem?]
theorem res_ct {fn : Func} {p b u : Nat} {ty : TypeId} {v : Value} {tmps : Array Value} (h : fn.results = #[.cell p ty, .tmp u]) (hp : tmps.getD p undef = .pointer (some ⟨b, 0, none⟩)) (hl : (loadVar ty ⟨b, 0, none⟩).run P w = .ok v w) : (results fn tmps).run P w = .ok (.tuple #[v, tmps.getD u undef]) w := by
  simp only [results, h]
  simp [Sem.run_bind, Result.andThen, hp, asAddr, hl, -Array.getD_eq_getD_getElem?]
theorem res_ctt {fn : Func} {p b u u2 : Nat} {ty : TypeId} {v : Value} {tmps : Array Value} (h : fn.results = #[.cell p ty, .tmp u, .tmp u2]) (hp : tmps.getD p undef = .pointer (some ⟨b, 0, none⟩)) (hl : (loadVar ty ⟨b, 0, none⟩).run P w = .ok v w) : (results fn tmps).run P w = .ok (.tuple #[v, tmps.getD u undef, tmps.getD u2 undef]) w := by
  simp only [results, h]
  simp [Sem.run_bind, Result.andThen, hp, asAddr, hl, -Array.getD_eq_getD_getElem?]
theorem res_tct {fn : Func} {p b u u2 : Nat} {ty : TypeId} {v : Value} {tmps : Array Value} (h : fn.results = #[.tmp u, .cell p ty, .tmp u2]) (hp : tmps.getD p undef = .pointer (some ⟨b, 0, none⟩)) (hl : (loadVar ty ⟨b, 0, none⟩).run P w = .ok v w) : (results fn tmps).run P w = .ok (.tuple #[tmps.getD u undef, v, tmps.getD u2 undef]) w := by
  simp only [results, h]
  simp [Sem.run_bind, Result.andThen, hp, asAddr, hl, -Array.getD_eq_getD_getElem?]
theorem res_cc {fn : Func} {p b p2 b2 : Nat} {ty ty2 : TypeId} {v v2 : Value} {tmps : Array Value} (h : fn.results = #[.cell p ty, .cell p2 ty2]) (hp : tmps.getD p undef = .pointer (some ⟨b, 0, none⟩)) (hl : (loadVar ty ⟨b, 0, none⟩).run P w = .ok v w)
    (hp2 : tmps.getD p2 undef = .pointer (some ⟨b2, 0, none⟩)) (hl2 : (loadVar ty2 ⟨b2, 0, none⟩).run P w = .ok v2 w) : (results fn tmps).run P w = .ok (.tuple #[v, v2]) w := by
  simp only [results, h]
  simp [Sem.run_bind, Result.andThen, hp, hp2, asAddr, hl, hl2, -Array.getD_eq_getD_getElem?]

/-- Where a part of a slice lies. -/
def cut (s : Option Addr) (l m size : Nat) : Option Addr := if m = l then s else s.map (·.add (l * size))
theorem cut_zero (s : Option Addr) (m size : Nat) : cut s 0 m size = s := by
  unfold cut
  split
  · rfl
  · cases s <;> simp [Addr.add]
theorem cut_none {s : Option Addr} {l m size : Nat} (h : cut s l m size = none) : s = none := by
  unfold cut at h
  split at h
  · exact h
  · cases s <;> simp_all
theorem RdV.cut {W : World} {s : Option Addr} {vs : List Value} (h : RdV W s vs) {l m size : Nat} (hm : m = l → vs.length ≤ l * size) : RdV W (cut s l m size) (vs.drop (l * size)) := by
  intro hp
  simp only [List.length_drop] at hp
  obtain ⟨p, rfl, hc⟩ := h (by omega)
  unfold Hp.cut
  rw [if_neg (fun e => by have := hm e; omega)]
  refine ⟨p.add (l * size), rfl, fun i v hv => ?_⟩
  rw [Go.Deep.add_add]
  exact hc _ v (by rw [List.getElem?_drop] at hv; exact hv)
theorem RdV.take {W : World} {s : Option Addr} {vs : List Value} (h : RdV W s vs) (n : Nat) : RdV W s (vs.take n) := by
  intro hp
  simp only [List.length_take] at hp
  obtain ⟨p, rfl, hc⟩ := h (by omega)
  refine ⟨p, rfl, fun i v hv => hc i v ?_⟩
  rw [List.getElem?_take] at hv
  split at hv
  · exact hv
  · cases hv
theorem wpl_cut_l {ops : Array Oper} {rest : List Oper} {T e : TypeId} {x lo : Operand} {size : Nat} (hT : P.underlying T = some (.slice e)) (hi : (P.info? e).map (·.size) = some size) {s : Option Addr} {n cap : Nat} (l : Nat) {kl : IntKind}
    (hw : Region.wanted ⟨dst, .slice T x (some lo) none none, ty, pos, af, g⟩ (yielded ops a.tmps) = true) (hx : a.eval x = .slice s n cap) (hlo : a.eval lo = .int kl l) (hl : l ≤ n)
    (k : wpList P ops Q rest (a.put dst (.slice (cut s l cap size) (n - l) (cap - l))) w) : wpList P ops Q (⟨dst, .slice T x (some lo) none none, ty, pos, af, g⟩ :: rest) a w := by
  refine list_of hw ?_
  cases hq : P.info? e with
  | none => simp [hq] at hi
  | some i =>
    have hs : i.size = size := by simpa [hq] using hi
    simpa [Oper.wp, execOp, hx, hlo, Instr.sliceAt, Instr.slice, run_underlying hT, Instr.sliceBounds, run_sliceBound, hl, sizeOf, typeInfo, hq, hs, Oper.upon, Result.andThen, cut] using k
theorem wpl_cut_h {ops : Array Oper} {rest : List Oper} {T e : TypeId} {x hi' : Operand} {size : Nat} (hT : P.underlying T = some (.slice e)) (hi : (P.info? e).map (·.size) = some size) {s : Option Addr} {n cap : Nat} (h : Nat) {kh : IntKind}
    (hw : Region.wanted ⟨dst, .slice T x none (some hi') none, ty, pos, af, g⟩ (yielded ops a.tmps) = true) (hx : a.eval x = .slice s n cap) (hhi : a.eval hi' = .int kh h) (hl : h ≤ cap)
    (k : wpList P ops Q rest (a.put dst (.slice s h cap)) w) : wpList P ops Q (⟨dst, .slice T x none (some hi') none, ty, pos, af, g⟩ :: rest) a w := by
  refine list_of hw ?_
  cases hq : P.info? e with
  | none => simp [hq] at hi
  | some i =>
    have hs : i.size = size := by simpa [hq] using hi
    have hz : (if cap = 0 then s else s.map (·.add 0)) = s := by
      split
      · rfl
      · cases s <;> simp [Addr.add]
    simpa [Oper.wp, execOp, hx, hhi, Instr.sliceAt, Instr.slice, run_underlying hT, Instr.sliceBounds, run_sliceBound, hl, sizeOf, typeInfo, hq, hs, Oper.upon, Result.andThen, hz] using k

/-! ### A region that draws its order -/
/-- The facts of the blocks H, and D. -/
def Held (H : List Blk) (D : World → Prop) (w : World) : Prop := Facts w H ∧ D w
theorem Sh.held (h : Sh w0 w H D) : Held H D w := ⟨h.facts, h.data⟩
theorem Sh.held1 {x : Blk} (h : Sh w0 w (x :: H) D) : Held H D w := ⟨h.facts.2, h.data⟩
theorem Sh.held2 {x y : Blk} (h : Sh w0 w (x :: y :: H) D) : Held H D w := ⟨h.facts.2.2, h.data⟩
theorem Sh.held3 {x y z : Blk} (h : Sh w0 w (x :: y :: z :: H) D) : Held H D w := ⟨h.facts.2.2.2, h.data⟩
theorem Sh.heldA {E : World → Prop} (h : Sh w0 w H (fun w => E w ∧ D w)) : Held H D w := ⟨h.facts, h.data.2⟩
theorem Sh.heldA1 {E : World → Prop} {x : Blk} (h : Sh w0 w (x :: H) (fun w => E w ∧ D w)) : Held H D w := ⟨h.facts.2, h.data.2⟩
theorem Sh.heldA2 {E : World → Prop} {x y : Blk} (h : Sh w0 w (x :: y :: H) (fun w => E w ∧ D w)) : Held H D w := ⟨h.facts.2.2, h.data.2⟩
theorem Sh.heldAA {E F : World → Prop} (h : Sh w0 w H (fun w => E w ∧ F w ∧ D w)) : Held H D w := ⟨h.facts, h.data.2.2⟩

theorem region_sh {id : Nat} {ops : Array Oper} (hm : P.follows .mixedOrders = true) (sh : Sh w0 w H D)
    (k : ∀ w', Sh w0 w' H D → wpAnyH P .any ops Q (Held H D) ops.size (Array.replicate ops.size false) a w') : (Code.region id ops true).wp P Q a w :=
  wp_region_held hm (k _ sh.drew)

/-- The same, the newest block's cells not held (the region stores into it). -/
theorem region_sh1 {id : Nat} {ops : Array Oper} {x : Blk} (hm : P.follows .mixedOrders = true) (sh : Sh w0 w (x :: H) D)
    (k : ∀ w', Sh w0 w' (x :: H) D → wpAnyH P .any ops Q (Held H D) ops.size (Array.replicate ops.size false) a w') : (Code.region id ops true).wp P Q a w :=
  wp_region_held hm (k _ sh.drew)
theorem region_sh2 {id : Nat} {ops : Array Oper} {x y : Blk} (hm : P.follows .mixedOrders = true) (sh : Sh w0 w (x :: y :: H) D)
    (k : ∀ w', Sh w0 w' (x :: y :: H) D → wpAnyH P .any ops Q (Held H D) ops.size (Array.replicate ops.size false) a w') : (Code.region id ops true).wp P Q a w :=
  wp_region_held hm (k _ sh.drew)

theorem take {ops : Array Oper} {M : World → Prop} {md : Region.Mode} {i : Nat} {oi : Oper} {v : Value} {fuel : Nat} {listed : Array Bool} (hi : ops[i]? = some oi)
    (hs : Region.noSelect ops = true) (hf : Region.free md ops listed i = true) (hr : (Region.ready md ops listed).contains i = true)
    (hQ : ∀ c a w, Q (.panic c) (a.put oi.dst v) w → Q (.panic c) a w) (hw : Region.wanted oi (yielded ops a.tmps) = true) (hS : M w) (hy : ∀ w, M w → (execOp a.eval oi).run P w = .ok (.value v) w)
    (h : wpAnyH P md ops Q M fuel (listed.setIfInBounds i true) (a.put oi.dst v) w) : wpAnyH P md ops Q M (fuel + 1) listed a w :=
  wpAnyH_take hi hs hf hr hQ (.inl ⟨hw, hy⟩) hS h
theorem skip {ops : Array Oper} {M : World → Prop} {md : Region.Mode} {i : Nat} {oi : Oper} {fuel : Nat} {listed : Array Bool} (hi : ops[i]? = some oi)
    (hs : Region.noSelect ops = true) (hf : Region.free md ops listed i = true) (hr : (Region.ready md ops listed).contains i = true)
    (hQ : ∀ c a w, Q (.panic c) (a.put oi.dst undef) w → Q (.panic c) a w) (hw : Region.wanted oi (yielded ops a.tmps) = false) (hS : M w)
    (h : wpAnyH P md ops Q M fuel (listed.setIfInBounds i true) (a.put oi.dst undef) w) : wpAnyH P md ops Q M (fuel + 1) listed a w :=
  wpAnyH_take hi hs hf hr hQ (.inr ⟨hw, rfl⟩) hS h

/-- Whichever of these comes up. -/
def Each (P : Program) (ops : Array Oper) (Q : Exit → Act → World → Prop) (K : Nat → Act → World → Prop) (a : Act) (w : World) (rs : List Nat) : Prop := ∀ i ∈ rs, wpOp P ops Q i (K i) a w
theorem Each.nil {ops : Array Oper} {K : Nat → Act → World → Prop} : Each P ops Q K a w [] := fun _ h => by cases h
theorem Each.cons {ops : Array Oper} {K : Nat → Act → World → Prop} {i : Nat} {rs : List Nat} (h : wpOp P ops Q i (K i) a w) (hs : Each P ops Q K a w rs) : Each P ops Q K a w (i :: rs) := fun j hj => by
  rcases List.mem_cons.1 hj with rfl | hj
  · exact h
  · exact hs j hj
theorem branch {ops : Array Oper} {M : World → Prop} {md : Region.Mode} {fuel : Nat} {listed : Array Bool} (rs : List Nat) (hr : Region.ready md ops listed = rs) (hne : rs ≠ [])
    (h : Each P ops Q (fun i a' w' => M w' ∧ wpAnyH P md ops Q M fuel (listed.setIfInBounds i true) a' w') a w rs) : wpAnyH P md ops Q M (fuel + 1) listed a w :=
  wpAnyH_all hr hne h
theorem op_step {ops : Array Oper} {M : World → Prop} {G : Act → World → Prop} {i : Nat} {o : Oper} (ho : ops[i]? = some o) (hw : Region.wanted o (yielded ops a.tmps) = true)
    (h : ∀ K : Act → World → Prop, (∀ a w, M w → G a w → K a w) → Oper.wp P o a w K Q) : wpOp P ops Q i (fun a' w' => M w' ∧ G a' w') a w := by
  unfold wpOp
  rw [ho]
  show if Region.wanted o (yielded ops a.tmps) = true then _ else _
  rw [if_pos hw]
  exact .inl (h _ (fun a w h1 h2 => ⟨h1, h2⟩))

/-! ### A quiet region: one value an operation, in every world of this memory -/
/-- The worlds of this memory. -/
def Cls (w0 : World) (H : List Blk) (D : World → Prop) (W : World) : Prop := Sh w0 W H D
theorem quiet_call {o : Oper} {Kq : Act → Prop} (v : Value) (f : FuncId) (args : Array Value) (h : ∀ W, Cls w0 H D W → (execOp a.eval o).run P W = .ok (.enter f args) W)
    (hc : ∀ W, Cls w0 H D W → Calls P f args W fun e W' => e = .returned v ∧ Below W.heap.size W W') (hK : Kq (a.put o.dst v)) : o.quiet P a (Cls w0 H D) Kq := by
  refine ⟨v, fun W hW => ?_, hK⟩
  unfold Oper.quietAt
  rw [h W hW]
  exact ⟨rfl, (hc W hW).mono fun e W' ⟨he, hb⟩ => ⟨he, Sh.call hW hb⟩⟩
theorem quiet_val {o : Oper} {Kq : Act → Prop} (v : Value) (h : ∀ W, Cls w0 H D W → (execOp a.eval o).run P W = .ok (.value v) W) (hK : Kq (a.put o.dst v)) : o.quiet P a (Cls w0 H D) Kq := by
  refine ⟨v, fun W hW => ?_, hK⟩
  unfold Oper.quietAt
  rw [h W hW]
  exact ⟨rfl, rfl⟩
end

end Hp
end Go.Proofs.YtfcffglgkblidaaDoor
