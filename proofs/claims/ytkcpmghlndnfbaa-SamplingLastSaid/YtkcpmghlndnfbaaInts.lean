/-
  Slices of numbers: what a walk reads of them; a row that a call has made, by copy or by append.
-/
import Derived.Test.YtkcpmghlndnfbaaBase
import Derived.Laws.CopyOwn
import Derived.Deep.Slices
import Derived.ChangeSlices
namespace Go.Proofs.Ytkcpmghlndnfbaa
open Go.RowKit
set_option linter.unusedVariables false

theorem ret_bool {a b : Bool} (h : a = b) : Ending.returned (.bool a) = .returned (.bool b) := by rw [h]

/-- The cells behind the address of a slice are the numbers zs, of kind k. -/
def Rd (W : World) (k : IntKind) (s : Option Addr) (zs : List Int) : Prop :=
  0 < zs.length → ∃ p, s = some p ∧ ∀ i z, zs[i]? = some z → W.cell? (p.add i) = some (.int k z)

theorem Rd.nil (W : World) (k : IntKind) (s : Option Addr) : Rd W k s [] := fun h => by simp at h
theorem cell_below {B : Nat} {W W' : World} (hb : Below B W W') {a : Addr} {v : Value} (hB : B = W.heap.size) (h : W.cell? a = some v) : W'.cell? a = some v := by
  have hl := World.block_lt_of_cell? W a h
  unfold World.cell? at h ⊢
  rw [hb.block a.block (by omega)]; exact h
theorem Rd.below {W W' : World} {k : IntKind} {s : Option Addr} {zs : List Int} (h : Rd W k s zs) (hb : Below W.heap.size W W') : Rd W' k s zs := by
  intro hp
  obtain ⟨p, hs, hc⟩ := h hp
  exact ⟨p, hs, fun i z hz => cell_below hb rfl (hc i z hz)⟩
/-- A row that the numbers fill, at its head. -/
theorem Rd.ofRow {W : World} {k : IntKind} {g : Nat} {cur : Array Value} {t : TypeId} {fr : Nat × Nat} {zs : List Int} (hg : W.heap[g]? = some (.cells cur t fr)) (hcur : ∀ (i : Nat) (z : Int), zs[i]? = some z → cur[i]? = some (Value.int k z)) :
    Rd W k (some ⟨g, 0, none⟩) zs := by
  intro _
  refine ⟨_, rfl, fun i z hz => ?_⟩
  have e1 : (⟨g, 0, none⟩ : Addr).add i = ⟨g, i, none⟩ := by unfold Addr.add; split <;> simp_all
  rw [e1]
  simp [World.cell?, hg, hcur i z hz]
theorem Rd.cell {W : World} {k : IntKind} {p : Addr} {zs : List Int} (h : Rd W k (some p) zs) (i : Nat) (hi : i < zs.length) : W.cell? (p.add i) = some (.int k (zs[i]'hi)) := by
  obtain ⟨q, hq, hc⟩ := h (by omega)
  obtain rfl : p = q := by simpa using hq
  exact hc i _ (by simp)
theorem Rd.isSome {W : World} {k : IntKind} {s : Option Addr} {zs : List Int} (h : Rd W k s zs) (hp : 0 < zs.length) : ∃ p, s = some p := by
  obtain ⟨p, hs, _⟩ := h hp; exact ⟨p, hs⟩

def icells (k : IntKind) (zs : List Int) : List Value := zs.map fun z => .int k z
theorem icells_length (k : IntKind) (zs : List Int) : (icells k zs).length = zs.length := by simp [icells]
theorem Rd.ofOwn {W : World} {B U n cap : Nat} {k : IntKind} {g : Nat} {zs : List Int} (h : W.ownsRow B U 1 (.slice (some ⟨g, 0, none⟩) n cap) n (icells k zs)) : Rd W k (some ⟨g, 0, none⟩) zs := by
  intro _
  refine ⟨_, rfl, fun i z hz => ?_⟩
  exact h.cells (g := g) rfl i _ (by simp [icells, hz])
theorem Rd.ofOwns {W : World} {B U n : Nat} {k : IntKind} {v : Value} {zs : List Int} (h : W.ownsRow B U 1 v n (icells k zs)) : ∃ s cap, v = .slice s zs.length cap ∧ Rd W k s zs := by
  have hl := h.1
  rw [icells_length, Nat.mul_one] at hl
  rcases h.2 with ⟨rfl, h0⟩ | ⟨g, cap, cur, rfl, h1⟩
  · obtain rfl : zs = [] := List.eq_nil_of_length_eq_zero (by omega)
    exact ⟨none, 0, rfl, Rd.nil _ _ _⟩
  · exact ⟨_, cap, by rw [hl], Rd.ofOwn h⟩

/-- 'made := make([]T, len(x)); n := copy(made, x)': the copying, the row freshly made. -/
theorem wpList_copy_all {P : Program} {W : World} {ops : Array Oper} {rest : List Oper} {o : Oper} {a : Act} {Q : Exit → Act → World → Prop} (hgd : o.guard = none) (d s : Operand) (dT sT : TypeId)
    (ho : o.op = .call { callee := .builtin .copy, args := #[d, s], argTypes := #[dT, sT] }) (B : Nat) (U : TypeId) (hu : P.underlying dT = some (.slice U)) (hsz : (P.info? U).map (·.size) = some 1)
    (k : IntKind) (zs ws : List Int) (g n c1 : Nat) (sp : Option Addr) (c2 : Nat) (hd : a.eval d = .slice (some ⟨g, 0, none⟩) n c1) (hs : a.eval s = .slice sp n c2) (hn : n = zs.length) (hn' : n = ws.length) (hB : B ≤ g)
    (hown : W.ownsRow B U 1 (.slice (some ⟨g, 0, none⟩) n c1) n (icells k ws)) (hrd : Rd W k sp zs)
    (h : ∀ w', w'.ownsRow B U 1 (.slice (some ⟨g, 0, none⟩) n c1) n (icells k zs) → Below B W w' → wpList P ops Q rest (a.put o.dst (goInt n)) w') :
    wpList P ops Q (o :: rest) a W := by
  have hlen := hown.1
  rcases hown.2 with ⟨hv, _⟩ | ⟨g', cap, cur, hv, hg1, hg2, hg3, hg4, hg5, hg6⟩
  · cases hv
  · simp only [Value.slice.injEq, Option.some.injEq, Addr.mk.injEq] at hv
    obtain ⟨⟨rfl, _, _⟩, _, rfl⟩ := hv
    have hcn : cur.toList.length = c1 := by simpa using hg5
    refine wpList_copy_splice hgd d s dT sT ho U hu hsz _ _ _ _ _ _ hd hs g 0 cur.toList U (by simpa using hg2) (icells k zs) (by simp [icells, ← hn]) (fun hp => ⟨rfl, ?_⟩) (by rw [icells_length]; omega)
      (by intro v hv; obtain ⟨z, _, rfl⟩ := List.mem_map.1 hv; rfl) B W (Below.refl _ _) hB ?_
    · obtain ⟨p, hp1, hp2⟩ := hrd (by simpa [icells] using hp)
      refine ⟨p, hp1, fun j v hv => ?_⟩
      simp only [icells, List.getElem?_map, Option.map_eq_some_iff] at hv
      obtain ⟨z, hz, rfl⟩ := hv
      exact hp2 j z hz
    · intro w' hw hb
      rw [icells_length, ← hn]
      refine h w' ⟨by rw [icells_length, hn, Nat.mul_one], .inr ⟨g, c1, _, rfl, hg1, hw.out, hg3, hg4, by rw [List.size_toArray, length_splice _ 0 (icells k zs) (by rw [icells_length]; omega)]; omega, ?_⟩⟩ hb
      simp [splice, hn, icells]

/-- 'make([]T, n)', of numbers. -/
theorem wpList_make_ints {P : Program} {W : World} {ops : Array Oper} {rest : List Oper} {o : Oper} {a : Act} {Q : Exit → Act → World → Prop} (hgd : o.guard = none) (l c : Operand) (T : TypeId)
    (hop : o.op = Op.makeSlice T l c) (k : IntKind) (B : Nat) (U : TypeId) (bytes : Nat)
    (hinfo : (P.info? U).map (fun i => (i.zero, i.size, i.bytes)) = some (some (.int k 0), 1, bytes)) (hT : P.underlying T = some (.slice U)) (hby : bytes ≤ 8)
    (n : Nat) (hl : a.eval l = .int .i64 n) (hc : a.eval c = .int .i64 n) (hn : n ≤ 1099511627776) (hB : B ≤ W.heap.size)
    (h : ∀ w', w'.ownsRow B U 1 (.slice (some ⟨W.heap.size, 0, none⟩) n n) n (icells k (List.replicate n 0)) → Below B W w' → wpList P ops Q rest (a.put o.dst (.slice (some ⟨W.heap.size, 0, none⟩) n n)) w') :
    wpList P ops Q (o :: rest) a W := by
  obtain ⟨i0, hi, hz0, hz1, hz2⟩ := info_parts hinfo
  refine wpList_make_full W hgd l c T hop B U i0 (.int k 0) 1 hT hi hz0 hz1 .i64 .i64 n n n hl hc rfl rfl ?_ (by unfold maxLen; omega) hB ?_
  · rw [hz2]
    have h8 : bytes * n ≤ 8 * 1099511627776 := Nat.mul_le_mul hby hn
    exact Nat.le_trans h8 (by decide)
  intro w' hown hgrow
  have e : (madeCells (Value.int k 0).cells (n * 1)).toList = icells k (List.replicate n 0) := by
    rw [Nat.mul_one]
    exact (toList_madeCells_one _ n).trans (by simp [icells])
  rw [e] at hown
  exact h w' hown ((Below.refl B W).grown hgrow hB (fun j hj => by cases hj))

/-- Two lists of numbers agree so far. -/
theorem eq_of_take {zs ys : List Int} (hl : zs.length = ys.length) (h : ∀ i (h1 : i < zs.length) (h2 : i < ys.length), zs[i] = ys[i]) : zs = ys :=
  List.ext_getElem hl h

/-- What lies in a block, kept by what only grows. -/
theorem kept {W W' : World} {i : Nat} {o : Obj} (hb : Below W.heap.size W W') (h : W.heap[i]? = some o) : W'.heap[i]? = some o := by
  rw [hb.block i (Array.getElem?_eq_some_iff.1 h).1]; exact h
theorem kept_drew {W : World} {i : Nat} {o : Obj} (h : W.heap[i]? = some o) : W.drew.heap[i]? = some o := h
theorem kept_alloc {W : World} {i : Nat} {o x : Obj} (h : W.heap[i]? = some o) : (W.alloc x).heap[i]? = some o := by
  have hl := (Array.getElem?_eq_some_iff.1 h).1
  rw [← h]; exact heap_alloc_old W x hl
theorem box {W : World} {i : Nat} {cur : Array Value} {t : TypeId} {fr : Nat × Nat} (h : W.heap[i]? = some (.cells cur t fr)) (j : Nat) {v : Value} (hv : cur[j]? = some v) : W.cell? ⟨i, j, none⟩ = some v := by
  simp [World.cell?, h, hv]
theorem box_alloc1 {W : World} {i : Nat} {cur : Array Value} {t : TypeId} {fr : Nat × Nat} (h : W.heap[i]? = some (.cells cur t fr)) (j : Nat) {v : Value} (hv : cur[j]? = some v) : ∀ o, (W.alloc o).cell? ⟨i, j, none⟩ = some v :=
  fun _ => box (kept_alloc h) j hv
theorem box_alloc2 {W : World} {i : Nat} {cur : Array Value} {t : TypeId} {fr : Nat × Nat} (h : W.heap[i]? = some (.cells cur t fr)) (j : Nat) {v : Value} (hv : cur[j]? = some v) : ∀ o p, ((W.alloc o).alloc p).cell? ⟨i, j, none⟩ = some v :=
  fun _ _ => box (kept_alloc (kept_alloc h)) j hv
theorem box_free {W : World} {i : Nat} {cur : Array Value} {t : TypeId} (h : W.heap[i]? = some (.cells cur t (0, 0))) (j : Nat) : W.frozen? ⟨i, j, none⟩ = false := by
  simp [World.frozen?, h]
theorem box1 {W : World} {i : Nat} {v0 : Value} {t : TypeId} {fr : Nat × Nat} (h : W.heap[i]? = some (.cells #[v0] t fr)) : (W.cell? ⟨i, 0, none⟩ = some v0) := box h 0 rfl
theorem box1a {W : World} {i : Nat} {v0 : Value} {t : TypeId} {fr : Nat × Nat} (h : W.heap[i]? = some (.cells #[v0] t fr)) : (∀ o, (W.alloc o).cell? ⟨i, 0, none⟩ = some v0) := fun _ => box (kept_alloc h) 0 rfl
theorem box1b {W : World} {i : Nat} {v0 : Value} {t : TypeId} {fr : Nat × Nat} (h : W.heap[i]? = some (.cells #[v0] t fr)) : (∀ o p, ((W.alloc o).alloc p).cell? ⟨i, 0, none⟩ = some v0) := fun _ _ => box (kept_alloc (kept_alloc h)) 0 rfl
theorem box2 {W : World} {i : Nat} {v0 v1 : Value} {t : TypeId} {fr : Nat × Nat} (h : W.heap[i]? = some (.cells #[v0, v1] t fr)) : (W.cell? ⟨i, 0, none⟩ = some v0) ∧ (W.cell? ⟨i, 1, none⟩ = some v1) := ⟨box h 0 rfl, box h 1 rfl⟩
theorem box2a {W : World} {i : Nat} {v0 v1 : Value} {t : TypeId} {fr : Nat × Nat} (h : W.heap[i]? = some (.cells #[v0, v1] t fr)) : (∀ o, (W.alloc o).cell? ⟨i, 0, none⟩ = some v0) ∧ (∀ o, (W.alloc o).cell? ⟨i, 1, none⟩ = some v1) := ⟨fun _ => box (kept_alloc h) 0 rfl, fun _ => box (kept_alloc h) 1 rfl⟩
theorem box2b {W : World} {i : Nat} {v0 v1 : Value} {t : TypeId} {fr : Nat × Nat} (h : W.heap[i]? = some (.cells #[v0, v1] t fr)) : (∀ o p, ((W.alloc o).alloc p).cell? ⟨i, 0, none⟩ = some v0) ∧ (∀ o p, ((W.alloc o).alloc p).cell? ⟨i, 1, none⟩ = some v1) := ⟨fun _ _ => box (kept_alloc (kept_alloc h)) 0 rfl, fun _ _ => box (kept_alloc (kept_alloc h)) 1 rfl⟩
theorem box3 {W : World} {i : Nat} {v0 v1 v2 : Value} {t : TypeId} {fr : Nat × Nat} (h : W.heap[i]? = some (.cells #[v0, v1, v2] t fr)) : (W.cell? ⟨i, 0, none⟩ = some v0) ∧ (W.cell? ⟨i, 1, none⟩ = some v1) ∧ (W.cell? ⟨i, 2, none⟩ = some v2) := ⟨box h 0 rfl, box h 1 rfl, box h 2 rfl⟩
theorem box3a {W : World} {i : Nat} {v0 v1 v2 : Value} {t : TypeId} {fr : Nat × Nat} (h : W.heap[i]? = some (.cells #[v0, v1, v2] t fr)) : (∀ o, (W.alloc o).cell? ⟨i, 0, none⟩ = some v0) ∧ (∀ o, (W.alloc o).cell? ⟨i, 1, none⟩ = some v1) ∧ (∀ o, (W.alloc o).cell? ⟨i, 2, none⟩ = some v2) := ⟨fun _ => box (kept_alloc h) 0 rfl, fun _ => box (kept_alloc h) 1 rfl, fun _ => box (kept_alloc h) 2 rfl⟩
theorem box3b {W : World} {i : Nat} {v0 v1 v2 : Value} {t : TypeId} {fr : Nat × Nat} (h : W.heap[i]? = some (.cells #[v0, v1, v2] t fr)) : (∀ o p, ((W.alloc o).alloc p).cell? ⟨i, 0, none⟩ = some v0) ∧ (∀ o p, ((W.alloc o).alloc p).cell? ⟨i, 1, none⟩ = some v1) ∧ (∀ o p, ((W.alloc o).alloc p).cell? ⟨i, 2, none⟩ = some v2) := ⟨fun _ _ => box (kept_alloc (kept_alloc h)) 0 rfl, fun _ _ => box (kept_alloc (kept_alloc h)) 1 rfl, fun _ _ => box (kept_alloc (kept_alloc h)) 2 rfl⟩
theorem box4 {W : World} {i : Nat} {v0 v1 v2 v3 : Value} {t : TypeId} {fr : Nat × Nat} (h : W.heap[i]? = some (.cells #[v0, v1, v2, v3] t fr)) : (W.cell? ⟨i, 0, none⟩ = some v0) ∧ (W.cell? ⟨i, 1, none⟩ = some v1) ∧ (W.cell? ⟨i, 2, none⟩ = some v2) ∧ (W.cell? ⟨i, 3, none⟩ = some v3) := ⟨box h 0 rfl, box h 1 rfl, box h 2 rfl, box h 3 rfl⟩
theorem box4a {W : World} {i : Nat} {v0 v1 v2 v3 : Value} {t : TypeId} {fr : Nat × Nat} (h : W.heap[i]? = some (.cells #[v0, v1, v2, v3] t fr)) : (∀ o, (W.alloc o).cell? ⟨i, 0, none⟩ = some v0) ∧ (∀ o, (W.alloc o).cell? ⟨i, 1, none⟩ = some v1) ∧ (∀ o, (W.alloc o).cell? ⟨i, 2, none⟩ = some v2) ∧ (∀ o, (W.alloc o).cell? ⟨i, 3, none⟩ = some v3) := ⟨fun _ => box (kept_alloc h) 0 rfl, fun _ => box (kept_alloc h) 1 rfl, fun _ => box (kept_alloc h) 2 rfl, fun _ => box (kept_alloc h) 3 rfl⟩
theorem box4b {W : World} {i : Nat} {v0 v1 v2 v3 : Value} {t : TypeId} {fr : Nat × Nat} (h : W.heap[i]? = some (.cells #[v0, v1, v2, v3] t fr)) : (∀ o p, ((W.alloc o).alloc p).cell? ⟨i, 0, none⟩ = some v0) ∧ (∀ o p, ((W.alloc o).alloc p).cell? ⟨i, 1, none⟩ = some v1) ∧ (∀ o p, ((W.alloc o).alloc p).cell? ⟨i, 2, none⟩ = some v2) ∧ (∀ o p, ((W.alloc o).alloc p).cell? ⟨i, 3, none⟩ = some v3) := ⟨fun _ _ => box (kept_alloc (kept_alloc h)) 0 rfl, fun _ _ => box (kept_alloc (kept_alloc h)) 1 rfl, fun _ _ => box (kept_alloc (kept_alloc h)) 2 rfl, fun _ _ => box (kept_alloc (kept_alloc h)) 3 rfl⟩
theorem box5 {W : World} {i : Nat} {v0 v1 v2 v3 v4 : Value} {t : TypeId} {fr : Nat × Nat} (h : W.heap[i]? = some (.cells #[v0, v1, v2, v3, v4] t fr)) : (W.cell? ⟨i, 0, none⟩ = some v0) ∧ (W.cell? ⟨i, 1, none⟩ = some v1) ∧ (W.cell? ⟨i, 2, none⟩ = some v2) ∧ (W.cell? ⟨i, 3, none⟩ = some v3) ∧ (W.cell? ⟨i, 4, none⟩ = some v4) := ⟨box h 0 rfl, box h 1 rfl, box h 2 rfl, box h 3 rfl, box h 4 rfl⟩
theorem box5a {W : World} {i : Nat} {v0 v1 v2 v3 v4 : Value} {t : TypeId} {fr : Nat × Nat} (h : W.heap[i]? = some (.cells #[v0, v1, v2, v3, v4] t fr)) : (∀ o, (W.alloc o).cell? ⟨i, 0, none⟩ = some v0) ∧ (∀ o, (W.alloc o).cell? ⟨i, 1, none⟩ = some v1) ∧ (∀ o, (W.alloc o).cell? ⟨i, 2, none⟩ = some v2) ∧ (∀ o, (W.alloc o).cell? ⟨i, 3, none⟩ = some v3) ∧ (∀ o, (W.alloc o).cell? ⟨i, 4, none⟩ = some v4) := ⟨fun _ => box (kept_alloc h) 0 rfl, fun _ => box (kept_alloc h) 1 rfl, fun _ => box (kept_alloc h) 2 rfl, fun _ => box (kept_alloc h) 3 rfl, fun _ => box (kept_alloc h) 4 rfl⟩
theorem box5b {W : World} {i : Nat} {v0 v1 v2 v3 v4 : Value} {t : TypeId} {fr : Nat × Nat} (h : W.heap[i]? = some (.cells #[v0, v1, v2, v3, v4] t fr)) : (∀ o p, ((W.alloc o).alloc p).cell? ⟨i, 0, none⟩ = some v0) ∧ (∀ o p, ((W.alloc o).alloc p).cell? ⟨i, 1, none⟩ = some v1) ∧ (∀ o p, ((W.alloc o).alloc p).cell? ⟨i, 2, none⟩ = some v2) ∧ (∀ o p, ((W.alloc o).alloc p).cell? ⟨i, 3, none⟩ = some v3) ∧ (∀ o p, ((W.alloc o).alloc p).cell? ⟨i, 4, none⟩ = some v4) := ⟨fun _ _ => box (kept_alloc (kept_alloc h)) 0 rfl, fun _ _ => box (kept_alloc (kept_alloc h)) 1 rfl, fun _ _ => box (kept_alloc (kept_alloc h)) 2 rfl, fun _ _ => box (kept_alloc (kept_alloc h)) 3 rfl, fun _ _ => box (kept_alloc (kept_alloc h)) 4 rfl⟩
theorem box6 {W : World} {i : Nat} {v0 v1 v2 v3 v4 v5 : Value} {t : TypeId} {fr : Nat × Nat} (h : W.heap[i]? = some (.cells #[v0, v1, v2, v3, v4, v5] t fr)) : (W.cell? ⟨i, 0, none⟩ = some v0) ∧ (W.cell? ⟨i, 1, none⟩ = some v1) ∧ (W.cell? ⟨i, 2, none⟩ = some v2) ∧ (W.cell? ⟨i, 3, none⟩ = some v3) ∧ (W.cell? ⟨i, 4, none⟩ = some v4) ∧ (W.cell? ⟨i, 5, none⟩ = some v5) := ⟨box h 0 rfl, box h 1 rfl, box h 2 rfl, box h 3 rfl, box h 4 rfl, box h 5 rfl⟩
theorem box6a {W : World} {i : Nat} {v0 v1 v2 v3 v4 v5 : Value} {t : TypeId} {fr : Nat × Nat} (h : W.heap[i]? = some (.cells #[v0, v1, v2, v3, v4, v5] t fr)) : (∀ o, (W.alloc o).cell? ⟨i, 0, none⟩ = some v0) ∧ (∀ o, (W.alloc o).cell? ⟨i, 1, none⟩ = some v1) ∧ (∀ o, (W.alloc o).cell? ⟨i, 2, none⟩ = some v2) ∧ (∀ o, (W.alloc o).cell? ⟨i, 3, none⟩ = some v3) ∧ (∀ o, (W.alloc o).cell? ⟨i, 4, none⟩ = some v4) ∧ (∀ o, (W.alloc o).cell? ⟨i, 5, none⟩ = some v5) := ⟨fun _ => box (kept_alloc h) 0 rfl, fun _ => box (kept_alloc h) 1 rfl, fun _ => box (kept_alloc h) 2 rfl, fun _ => box (kept_alloc h) 3 rfl, fun _ => box (kept_alloc h) 4 rfl, fun _ => box (kept_alloc h) 5 rfl⟩
theorem box6b {W : World} {i : Nat} {v0 v1 v2 v3 v4 v5 : Value} {t : TypeId} {fr : Nat × Nat} (h : W.heap[i]? = some (.cells #[v0, v1, v2, v3, v4, v5] t fr)) : (∀ o p, ((W.alloc o).alloc p).cell? ⟨i, 0, none⟩ = some v0) ∧ (∀ o p, ((W.alloc o).alloc p).cell? ⟨i, 1, none⟩ = some v1) ∧ (∀ o p, ((W.alloc o).alloc p).cell? ⟨i, 2, none⟩ = some v2) ∧ (∀ o p, ((W.alloc o).alloc p).cell? ⟨i, 3, none⟩ = some v3) ∧ (∀ o p, ((W.alloc o).alloc p).cell? ⟨i, 4, none⟩ = some v4) ∧ (∀ o p, ((W.alloc o).alloc p).cell? ⟨i, 5, none⟩ = some v5) := ⟨fun _ _ => box (kept_alloc (kept_alloc h)) 0 rfl, fun _ _ => box (kept_alloc (kept_alloc h)) 1 rfl, fun _ _ => box (kept_alloc (kept_alloc h)) 2 rfl, fun _ _ => box (kept_alloc (kept_alloc h)) 3 rfl, fun _ _ => box (kept_alloc (kept_alloc h)) 4 rfl, fun _ _ => box (kept_alloc (kept_alloc h)) 5 rfl⟩
theorem box7 {W : World} {i : Nat} {v0 v1 v2 v3 v4 v5 v6 : Value} {t : TypeId} {fr : Nat × Nat} (h : W.heap[i]? = some (.cells #[v0, v1, v2, v3, v4, v5, v6] t fr)) : (W.cell? ⟨i, 0, none⟩ = some v0) ∧ (W.cell? ⟨i, 1, none⟩ = some v1) ∧ (W.cell? ⟨i, 2, none⟩ = some v2) ∧ (W.cell? ⟨i, 3, none⟩ = some v3) ∧ (W.cell? ⟨i, 4, none⟩ = some v4) ∧ (W.cell? ⟨i, 5, none⟩ = some v5) ∧ (W.cell? ⟨i, 6, none⟩ = some v6) := ⟨box h 0 rfl, box h 1 rfl, box h 2 rfl, box h 3 rfl, box h 4 rfl, box h 5 rfl, box h 6 rfl⟩
theorem box7a {W : World} {i : Nat} {v0 v1 v2 v3 v4 v5 v6 : Value} {t : TypeId} {fr : Nat × Nat} (h : W.heap[i]? = some (.cells #[v0, v1, v2, v3, v4, v5, v6] t fr)) : (∀ o, (W.alloc o).cell? ⟨i, 0, none⟩ = some v0) ∧ (∀ o, (W.alloc o).cell? ⟨i, 1, none⟩ = some v1) ∧ (∀ o, (W.alloc o).cell? ⟨i, 2, none⟩ = some v2) ∧ (∀ o, (W.alloc o).cell? ⟨i, 3, none⟩ = some v3) ∧ (∀ o, (W.alloc o).cell? ⟨i, 4, none⟩ = some v4) ∧ (∀ o, (W.alloc o).cell? ⟨i, 5, none⟩ = some v5) ∧ (∀ o, (W.alloc o).cell? ⟨i, 6, none⟩ = some v6) := ⟨fun _ => box (kept_alloc h) 0 rfl, fun _ => box (kept_alloc h) 1 rfl, fun _ => box (kept_alloc h) 2 rfl, fun _ => box (kept_alloc h) 3 rfl, fun _ => box (kept_alloc h) 4 rfl, fun _ => box (kept_alloc h) 5 rfl, fun _ => box (kept_alloc h) 6 rfl⟩
theorem box7b {W : World} {i : Nat} {v0 v1 v2 v3 v4 v5 v6 : Value} {t : TypeId} {fr : Nat × Nat} (h : W.heap[i]? = some (.cells #[v0, v1, v2, v3, v4, v5, v6] t fr)) : (∀ o p, ((W.alloc o).alloc p).cell? ⟨i, 0, none⟩ = some v0) ∧ (∀ o p, ((W.alloc o).alloc p).cell? ⟨i, 1, none⟩ = some v1) ∧ (∀ o p, ((W.alloc o).alloc p).cell? ⟨i, 2, none⟩ = some v2) ∧ (∀ o p, ((W.alloc o).alloc p).cell? ⟨i, 3, none⟩ = some v3) ∧ (∀ o p, ((W.alloc o).alloc p).cell? ⟨i, 4, none⟩ = some v4) ∧ (∀ o p, ((W.alloc o).alloc p).cell? ⟨i, 5, none⟩ = some v5) ∧ (∀ o p, ((W.alloc o).alloc p).cell? ⟨i, 6, none⟩ = some v6) := ⟨fun _ _ => box (kept_alloc (kept_alloc h)) 0 rfl, fun _ _ => box (kept_alloc (kept_alloc h)) 1 rfl, fun _ _ => box (kept_alloc (kept_alloc h)) 2 rfl, fun _ _ => box (kept_alloc (kept_alloc h)) 3 rfl, fun _ _ => box (kept_alloc (kept_alloc h)) 4 rfl, fun _ _ => box (kept_alloc (kept_alloc h)) 5 rfl, fun _ _ => box (kept_alloc (kept_alloc h)) 6 rfl⟩
theorem box8 {W : World} {i : Nat} {v0 v1 v2 v3 v4 v5 v6 v7 : Value} {t : TypeId} {fr : Nat × Nat} (h : W.heap[i]? = some (.cells #[v0, v1, v2, v3, v4, v5, v6, v7] t fr)) : (W.cell? ⟨i, 0, none⟩ = some v0) ∧ (W.cell? ⟨i, 1, none⟩ = some v1) ∧ (W.cell? ⟨i, 2, none⟩ = some v2) ∧ (W.cell? ⟨i, 3, none⟩ = some v3) ∧ (W.cell? ⟨i, 4, none⟩ = some v4) ∧ (W.cell? ⟨i, 5, none⟩ = some v5) ∧ (W.cell? ⟨i, 6, none⟩ = some v6) ∧ (W.cell? ⟨i, 7, none⟩ = some v7) := ⟨box h 0 rfl, box h 1 rfl, box h 2 rfl, box h 3 rfl, box h 4 rfl, box h 5 rfl, box h 6 rfl, box h 7 rfl⟩
theorem box8a {W : World} {i : Nat} {v0 v1 v2 v3 v4 v5 v6 v7 : Value} {t : TypeId} {fr : Nat × Nat} (h : W.heap[i]? = some (.cells #[v0, v1, v2, v3, v4, v5, v6, v7] t fr)) : (∀ o, (W.alloc o).cell? ⟨i, 0, none⟩ = some v0) ∧ (∀ o, (W.alloc o).cell? ⟨i, 1, none⟩ = some v1) ∧ (∀ o, (W.alloc o).cell? ⟨i, 2, none⟩ = some v2) ∧ (∀ o, (W.alloc o).cell? ⟨i, 3, none⟩ = some v3) ∧ (∀ o, (W.alloc o).cell? ⟨i, 4, none⟩ = some v4) ∧ (∀ o, (W.alloc o).cell? ⟨i, 5, none⟩ = some v5) ∧ (∀ o, (W.alloc o).cell? ⟨i, 6, none⟩ = some v6) ∧ (∀ o, (W.alloc o).cell? ⟨i, 7, none⟩ = some v7) := ⟨fun _ => box (kept_alloc h) 0 rfl, fun _ => box (kept_alloc h) 1 rfl, fun _ => box (kept_alloc h) 2 rfl, fun _ => box (kept_alloc h) 3 rfl, fun _ => box (kept_alloc h) 4 rfl, fun _ => box (kept_alloc h) 5 rfl, fun _ => box (kept_alloc h) 6 rfl, fun _ => box (kept_alloc h) 7 rfl⟩
theorem box8b {W : World} {i : Nat} {v0 v1 v2 v3 v4 v5 v6 v7 : Value} {t : TypeId} {fr : Nat × Nat} (h : W.heap[i]? = some (.cells #[v0, v1, v2, v3, v4, v5, v6, v7] t fr)) : (∀ o p, ((W.alloc o).alloc p).cell? ⟨i, 0, none⟩ = some v0) ∧ (∀ o p, ((W.alloc o).alloc p).cell? ⟨i, 1, none⟩ = some v1) ∧ (∀ o p, ((W.alloc o).alloc p).cell? ⟨i, 2, none⟩ = some v2) ∧ (∀ o p, ((W.alloc o).alloc p).cell? ⟨i, 3, none⟩ = some v3) ∧ (∀ o p, ((W.alloc o).alloc p).cell? ⟨i, 4, none⟩ = some v4) ∧ (∀ o p, ((W.alloc o).alloc p).cell? ⟨i, 5, none⟩ = some v5) ∧ (∀ o p, ((W.alloc o).alloc p).cell? ⟨i, 6, none⟩ = some v6) ∧ (∀ o p, ((W.alloc o).alloc p).cell? ⟨i, 7, none⟩ = some v7) := ⟨fun _ _ => box (kept_alloc (kept_alloc h)) 0 rfl, fun _ _ => box (kept_alloc (kept_alloc h)) 1 rfl, fun _ _ => box (kept_alloc (kept_alloc h)) 2 rfl, fun _ _ => box (kept_alloc (kept_alloc h)) 3 rfl, fun _ _ => box (kept_alloc (kept_alloc h)) 4 rfl, fun _ _ => box (kept_alloc (kept_alloc h)) 5 rfl, fun _ _ => box (kept_alloc (kept_alloc h)) 6 rfl, fun _ _ => box (kept_alloc (kept_alloc h)) 7 rfl⟩
theorem box_lt {W : World} {i : Nat} {o : Obj} (h : W.heap[i]? = some o) : i < W.heap.size := (Array.getElem?_eq_some_iff.1 h).1
theorem cell_set_ne {W : World} {a b : Addr} {v : Value} (h : a.block ≠ b.block) : (W.setCell b v).cell? a = W.cell? a := by
  simp only [World.cell?, World.setCell]
  rw [Array.getElem?_modify, if_neg (fun e => h e.symm)]
theorem Rd.set {W : World} {k : IntKind} {p a : Addr} {zs : List Int} (h : Rd W k (some p) zs) (hne : p.block ≠ a.block) (v : Value) : Rd (W.setCell a v) k (some p) zs := by
  intro hp
  obtain ⟨q, hq, hc⟩ := h hp
  refine ⟨q, hq, fun i z hz => ?_⟩
  obtain rfl : p = q := by simpa using hq
  have e : (p.add i).block = p.block := by unfold Addr.add; split <;> rfl
  rw [cell_set_ne (by rw [e]; exact hne)]
  exact hc i z hz
theorem set3_below {B : Nat} {W0 W : World} (hb : Below B W0 W) {a b c : Addr} (ha : B ≤ a.block) (hb' : B ≤ b.block) (hc : B ≤ c.block) (u v x : Value) : Below B W0 (((W.setCell a u).setCell b v).setCell c x) :=
  ((hb.setCell ha u).setCell hb' v).setCell hc x
theorem below_a1 (w : World) (o : Obj) : Below w.heap.size w (w.alloc o) := (Below.refl _ w).alloc (Nat.le_refl _) _
theorem below_a2 (w : World) (o p : Obj) : Below w.heap.size w ((w.alloc o).alloc p) := (below_a1 w o).alloc (by simp) _
theorem below_a3 (w : World) (o p q : Obj) : Below w.heap.size w (((w.alloc o).alloc p).alloc q) := (below_a2 w o p).alloc (by simp; omega) _
theorem at_a1 (w : World) (c : Array Value) (t : TypeId) (fr : Nat × Nat) : (w.alloc (.cells c t fr)).heap[w.heap.size]? = some (.cells c t fr) := heap_alloc_new w _
theorem at_a2 (w : World) (o : Obj) (c : Array Value) (t : TypeId) (fr : Nat × Nat) : ((w.alloc o).alloc (.cells c t fr)).heap[w.heap.size + 1]? = some (.cells c t fr) := by
  have h := heap_alloc_new (w.alloc o) (.cells c t fr)
  rwa [show (w.alloc o).heap.size = w.heap.size + 1 by simp] at h
theorem at_a3 (w : World) (o p : Obj) (c : Array Value) (t : TypeId) (fr : Nat × Nat) : (((w.alloc o).alloc p).alloc (.cells c t fr)).heap[w.heap.size + 1 + 1]? = some (.cells c t fr) := by
  have h := heap_alloc_new ((w.alloc o).alloc p) (.cells c t fr)
  rwa [show ((w.alloc o).alloc p).heap.size = w.heap.size + 1 + 1 by simp] at h

end Go.Proofs.Ytkcpmghlndnfbaa
