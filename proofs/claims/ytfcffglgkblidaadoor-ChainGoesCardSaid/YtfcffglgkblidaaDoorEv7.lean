
/-
  Rows of structs as data: the cells of one element, in the shapes that the walk asks.
-/
import Derived.Test.YtfcffglgkblidaaDoorHeap
import Derived.Test.YtfcffglgkblidaaDoorEv6
namespace Go.Proofs.YtfcffglgkblidaaDoor
open Go.RowKit
set_option linter.unusedVariables false

namespace Hp
theorem add_offs (p : Addr) (i j : Nat) (hj : j ≠ 0) : (⟨(p.add i).block, (p.add i).off + j, none⟩ : Addr) = p.add (i + j) := by
  unfold Addr.add
  by_cases hi : i = 0
  · subst hi; simp [hj]
  · rw [if_neg hi, if_neg (by omega)]; simp [Nat.add_assoc]
theorem flat_at {α : Type} {enc : α → List Value} {size : Nat} (hsz : ∀ a, (enc a).length = size) : ∀ (L : List α) (k j : Nat) (h : k < L.length), j < size → (L.flatMap enc)[k * size + j]? = (enc L[k])[j]? := by
  intro L
  induction L with
  | nil => intro k j h; simp at h
  | cons c L ih =>
    intro k j h hj
    rw [List.flatMap_cons]
    cases k with
    | zero => rw [List.getElem?_append_left (by rw [hsz]; omega)]; simp
    | succ k =>
      rw [List.getElem?_append_right (by rw [hsz, Nat.add_mul]; omega), show (k + 1) * size + j - (enc c).length = k * size + j by rw [hsz, Nat.add_mul]; omega]
      exact ih k j (by simpa using h) hj
theorem flat_length {α : Type} {enc : α → List Value} {size : Nat} (hsz : ∀ a, (enc a).length = size) (L : List α) : (L.flatMap enc).length = L.length * size := by
  induction L with
  | nil => simp
  | cons c L ih => rw [List.flatMap_cons, List.length_append, hsz, ih, List.length_cons, Nat.add_mul]; omega
theorem flat_pos {α : Type} {enc : α → List Value} {size : Nat} (hsz : ∀ a, (enc a).length = size) (h0 : 0 < size) {L : List α} {k : Nat} (h : k < L.length) : 0 < (L.flatMap enc).length := by
  rw [flat_length hsz]
  exact Nat.mul_pos (by omega) h0
theorem row_cell {α : Type} {enc : α → List Value} {size : Nat} (hsz : ∀ a, (enc a).length = size) {W : World} {p : Addr} {L : List α} (hR : RdV W (some p) (L.flatMap enc)) {k : Nat} (h : k < L.length) (j : Nat) {v : Value} (hv : (enc L[k])[j]? = some v) : W.cell? (p.add (k * size + j)) = some v := by
  have hj : j < size := by have := (List.getElem?_eq_some_iff.1 hv).1; rw [hsz] at this; exact this
  exact hR.cell _ (by rw [flat_at hsz L k j h hj]; exact hv)
theorem row_cell0 {α : Type} {enc : α → List Value} {size : Nat} (hsz : ∀ a, (enc a).length = size) {W : World} {p : Addr} {L : List α} (hR : RdV W (some p) (L.flatMap enc)) {k : Nat} (h : k < L.length) {v : Value} (hv : (enc L[k])[0]? = some v) : W.cell? (p.add (k * size)) = some v := row_cell hsz hR h 0 hv
theorem row_cellS {α : Type} {enc : α → List Value} {size : Nat} (hsz : ∀ a, (enc a).length = size) {W : World} {p : Addr} {L : List α} (hR : RdV W (some p) (L.flatMap enc)) {k : Nat} (h : k < L.length) (j : Nat) (hj : j ≠ 0) {v : Value} (hv : (enc L[k])[j]? = some v) : W.cell? ⟨(p.add (k * size)).block, (p.add (k * size)).off + j, none⟩ = some v := by
  rw [add_offs _ _ _ hj]; exact row_cell hsz hR h j hv
end Hp

end Go.Proofs.YtfcffglgkblidaaDoor

/-
  The walks of follows, Run and the reference's Run.
-/
namespace Go.Proofs.YtfcffglgkblidaaDoor
open Go.RowKit
set_option linter.unusedVariables false
set_option linter.unusedSimpArgs false

namespace Hp
section
variable {P : Program} {w0 w : World} {H : List Blk} {D : World → Prop} {dst : Option Tmp} {ty : TypeId} {pos : String} {af : Array Edge} {g : Option (Nat × Bool)} {a : Act} {K : Act → World → Prop} {Q : Exit → Act → World → Prop}
/-- Two elements of a slice, from place l on. -/
theorem wpl_cut2 {ops : Array Oper} {rest : List Oper} {T e : TypeId} {x lo hi' mx : Operand} {size : Nat} (hT : P.underlying T = some (.slice e)) (hi : (P.info? e).map (·.size) = some size) {p : Addr} {n cap : Nat} (l : Nat) {i j m : Int} {k1 k2 k3 : IntKind}
    (hw : Region.wanted ⟨dst, .slice T x (some lo) (some hi') (some mx), ty, pos, af, g⟩ (yielded ops a.tmps) = true) (hx : a.eval x = .slice (some p) n cap) (hlo : a.eval lo = .int k1 i) (hhi : a.eval hi' = .int k2 j) (hmx : a.eval mx = .int k3 m) (e1 : i = (l : Nat)) (e2 : j = ((l + 2 : Nat) : Int)) (e3 : m = ((l + 2 : Nat) : Int)) (h3 : l + 2 ≤ cap)
    (k : wpList P ops Q rest (a.put dst (.slice (some (p.add (l * size))) 2 2)) w) : wpList P ops Q (⟨dst, .slice T x (some lo) (some hi') (some mx), ty, pos, af, g⟩ :: rest) a w := by
  subst e1 e2 e3
  refine wpl_cut3 hT hi l (l + 2) (l + 2) hw hx hlo hhi hmx (by omega) (Nat.le_refl _) h3 ?_
  unfold cut
  rw [if_neg (by omega), show l + 2 - l = 2 by omega]
  exact k
end
end Hp
theorem RdV_rob {W : World} {s : Option Addr} {vs : List Value} (h : Hp.RdV W s vs) : Hp.Rob (fun _ => False) W (fun W => Hp.RdV W s vs) := fun W' ho => h.below ho (fun _ _ h => h)
namespace EvP
def evc (x : Ev) : List Value := [.int .u64 x.1, .int .i64 x.2.1, .int .i64 x.2.2.1, .int .i64 x.2.2.2.1, .int .i64 x.2.2.2.2.1, .int .i64 x.2.2.2.2.2]
theorem evc_len (x : Ev) : (evc x).length = 6 := rfl
def EvB (x : Ev) : Prop := (0 ≤ x.1 ∧ x.1 ≤ 18446744073709551615) ∧ (-9223372036854775808 ≤ x.2.1 ∧ x.2.1 ≤ 9223372036854775807) ∧ (-9223372036854775808 ≤ x.2.2.1 ∧ x.2.2.1 ≤ 9223372036854775807) ∧ (-9223372036854775808 ≤ x.2.2.2.1 ∧ x.2.2.2.1 ≤ 9223372036854775807) ∧ (-9223372036854775808 ≤ x.2.2.2.2.1 ∧ x.2.2.2.2.1 ≤ 9223372036854775807) ∧ (-9223372036854775808 ≤ x.2.2.2.2.2 ∧ x.2.2.2.2.2 ≤ 9223372036854775807)
theorem ev_cells {W : World} {p : Addr} {L : List Ev} (hR : Hp.RdV W (some p) (L.flatMap evc)) {k : Nat} (h : k < L.length) {q t r m a b : Int} (hx : L[k] = (q, t, r, m, a, b)) :
    W.cell? (p.add (k * 6)) = some (.int .u64 q) ∧ W.cell? ⟨(p.add (k * 6)).block, (p.add (k * 6)).off + 1, none⟩ = some (.int .i64 t) ∧ W.cell? ⟨(p.add (k * 6)).block, (p.add (k * 6)).off + 2, none⟩ = some (.int .i64 r) ∧ W.cell? ⟨(p.add (k * 6)).block, (p.add (k * 6)).off + 3, none⟩ = some (.int .i64 m) ∧ W.cell? ⟨(p.add (k * 6)).block, (p.add (k * 6)).off + 4, none⟩ = some (.int .i64 a) ∧ W.cell? ⟨(p.add (k * 6)).block, (p.add (k * 6)).off + 5, none⟩ = some (.int .i64 b) :=
  ⟨Hp.row_cell0 evc_len hR h (by rw [hx]; rfl), Hp.row_cellS evc_len hR h 1 (by decide) (by rw [hx]; rfl), Hp.row_cellS evc_len hR h 2 (by decide) (by rw [hx]; rfl), Hp.row_cellS evc_len hR h 3 (by decide) (by rw [hx]; rfl), Hp.row_cellS evc_len hR h 4 (by decide) (by rw [hx]; rfl), Hp.row_cellS evc_len hR h 5 (by decide) (by rw [hx]; rfl)⟩
theorem two_of {W : World} {p : Addr} {L : List Ev} (hR : Hp.RdV W (some p) (L.flatMap evc)) {k : Nat} (h : k + 1 < L.length) : W.cell? (p.add (k * 6)) = some (.int .u64 L[k].1) ∧ W.cell? ⟨(p.add (k * 6)).block, (p.add (k * 6)).off + 6, none⟩ = some (.int .u64 L[k + 1].1) :=
  ⟨Hp.row_cell0 evc_len hR (by omega) rfl, by have := Hp.row_cell0 evc_len hR h (v := .int .u64 L[k + 1].1) rfl; rwa [show (k + 1) * 6 = k * 6 + 6 by omega, ← Hp.add_offs _ _ _ (by decide)] at this⟩
def fol (x y : Int) : Bool := decide (y ≠ 0) && decide (x = y - 1)
theorem add_add (p : Addr) (i : Nat) : (p.add i).add 6 = p.add (i + 6) := by
  unfold Addr.add
  by_cases hi : i = 0
  · subst hi; simp
  · rw [if_neg hi, if_neg (by decide), if_neg (by omega)]; simp [Nat.add_assoc]
theorem add_z (p : Addr) : p.add (0 * 6) = p := by simp [Addr.add]
theorem okAt_first {L : List Ev} (h : 0 < L.length) : okAt L 0 = isB L[0] := by
  unfold okAt
  simp [List.getD_eq_getElem?_getD, h]
theorem okAt_next {L : List Ev} {k : Nat} (h : k + 1 < L.length) : okAt L (k + 1) = (isB L[k + 1] && fol L[k].1 L[k + 1].1) := by
  have h0 : k < L.length := by omega
  unfold okAt fol
  simp [List.getD_eq_getElem?_getD, h, h0]
theorem ok_step {L : List Ev} {k : Nat} (h : ∀ j, j < k → okAt L j = true) (hk : okAt L k = true) : ∀ j, j < k + 1 → okAt L j = true := fun j hj => by
  by_cases h1 : j = k
  · subst h1; exact hk
  · exact h j (by omega)
end EvP

set_option maxHeartbeats 4000000 in set_option maxRecDepth 100000 in
theorem efollows (p : Addr) (L : List EvP.Ev) (k : Nat) (hk : k + 1 < L.length) (hB : ∀ x ∈ L, EvP.EvB x) (w : World) (hR : Hp.RdV w (some p) (L.flatMap EvP.evc)) :
    Calls Tryd.prog 31 #[.slice (some (p.add (k * 6))) 2 2] w fun e w' => e = .returned (.bool (EvP.fol L[k].1 L[k + 1].1)) ∧ Below w.heap.size w w' := by
  have sh : Hp.Sh w w [] _ := Hp.Sh.start ((RdV_rob hR).imp (fun W h => EvP.two_of h hk))
  have hx := (hB _ (List.getElem_mem (by omega : k < L.length))).1
  have hy := (hB _ (List.getElem_mem hk)).1
  unfold EvP.fol
  clear hB hR
  generalize L[k].1 = x at *
  generalize L[k + 1].1 = y at *
  generalize p.add (k * 6) = q at *
  by_cases h0 : y = 0
  · subst h0
    have d1 : ((0 : Int) != 0) = false := rfl
    go_enter Tryd.func31, Tryd.ntmps31
    go_wp2_with (first
        | ((with_reducible first | refine Hp.wpl_box sh ?_ ?_ | refine Hp.atl_store ?_ ?_); exact rfl; (try (refine Hp.wsB sh ?_)); clear sh; (try clear F); go_simp; (first | intro b w1 sh | intro w1 sh); have F := sh.fx)
        | fail)
    refine wp_region_quiet (C := Hp.Cls _ _ _) (by kernel_rfl) (by kernel_rfl) sh.drew ?_; clear sh; (try clear F)
    (try simp only [])
    iterate 3 (first | go_big_quiet_skip | (go_big_quiet_want; go_big_quiet_op; first | go_big_quiet_on | (refine ⟨_, fun _ _ => rfl, ?_⟩; go_big_quiet_on)))
    (first | go_big_quiet_skip | (go_big_quiet_want; refine Hp.quiet_val _ (fun W hW => by have F := Hp.Sh.facts hW; have hd := Hp.Sh.data hW; (try simp only [Hp.Facts, Hp.CellsAt, Nat.reduceAdd, Hp.c1, Hp.c2] at F); skip; go_simp; rfl) ?_; (try simp only [Act.put, Hp.p1, Hp.p2, Hp.p3]); go_big_quiet_on) | (go_big_quiet_want; refine Hp.quiet_val _ (fun W hW => by have F := Hp.Sh.facts hW; have hd := Hp.Sh.data hW; (try simp only [Hp.Facts, Hp.CellsAt, Nat.reduceAdd, Hp.c1, Hp.c2] at F); skip; go_simp) ?_; (try simp only [Act.put, Hp.p1, Hp.p2, Hp.p3]); go_big_quiet_on))
    iterate 5 (first | go_big_quiet_skip | (go_big_quiet_want; go_big_quiet_op; first | go_big_quiet_on | (refine ⟨_, fun _ _ => rfl, ?_⟩; go_big_quiet_on)))
    (first | go_big_quiet_skip | (go_big_quiet_want; refine Hp.quiet_val _ (fun W hW => by have F := Hp.Sh.facts hW; have hd := Hp.Sh.data hW; (try simp only [Hp.Facts, Hp.CellsAt, Nat.reduceAdd, Hp.c1, Hp.c2] at F); skip; go_simp; rfl) ?_; (try simp only [Act.put, Hp.p1, Hp.p2, Hp.p3]); go_big_quiet_on) | (go_big_quiet_want; refine Hp.quiet_val _ (fun W hW => by have F := Hp.Sh.facts hW; have hd := Hp.Sh.data hW; (try simp only [Hp.Facts, Hp.CellsAt, Nat.reduceAdd, Hp.c1, Hp.c2] at F); skip; go_simp) ?_; (try simp only [Act.put, Hp.p1, Hp.p2, Hp.p3]); go_big_quiet_on))
    iterate 4 (first | go_big_quiet_skip | (go_big_quiet_want; go_big_quiet_op; first | go_big_quiet_on | (refine ⟨_, fun _ _ => rfl, ?_⟩; go_big_quiet_on)))
    (first | go_big_quiet_skip | (go_big_quiet_want; refine Hp.quiet_val _ (fun W hW => by have F := Hp.Sh.facts hW; have hd := Hp.Sh.data hW; (try simp only [Hp.Facts, Hp.CellsAt, Nat.reduceAdd, Hp.c1, Hp.c2] at F); skip; go_simp; rfl) ?_; (try simp only [Act.put, Hp.p1, Hp.p2, Hp.p3]); go_big_quiet_on) | (go_big_quiet_want; refine Hp.quiet_val _ (fun W hW => by have F := Hp.Sh.facts hW; have hd := Hp.Sh.data hW; (try simp only [Hp.Facts, Hp.CellsAt, Nat.reduceAdd, Hp.c1, Hp.c2] at F); skip; go_simp) ?_; (try simp only [Act.put, Hp.p1, Hp.p2, Hp.p3]); go_big_quiet_on))
    iterate 3 (first | go_big_quiet_skip | (go_big_quiet_want; go_big_quiet_op; first | go_big_quiet_on | (refine ⟨_, fun _ _ => rfl, ?_⟩; go_big_quiet_on)))
    refine wpQuiet_nil ?_; intro w1 sh; have F := sh.fx
    go_wp2
    go_ret
    exact ⟨ret_bool (by simp), sh.below⟩
  · have d1 : (y != 0) = true := by rw [bne_iff_ne]; exact h0
    have w1 : IntKind.u64.wrap (y - 1) = y - 1 := by simp [IntKind.wrap, IntKind.bits, IntKind.signed]; omega
    go_enter Tryd.func31, Tryd.ntmps31
    go_wp2_with (first
        | ((with_reducible first | refine Hp.wpl_box sh ?_ ?_ | refine Hp.atl_store ?_ ?_); exact rfl; (try (refine Hp.wsB sh ?_)); clear sh; (try clear F); go_simp; (first | intro b w1 sh | intro w1 sh); have F := sh.fx)
        | fail)
    refine wp_region_quiet (C := Hp.Cls _ _ _) (by kernel_rfl) (by kernel_rfl) sh.drew ?_; clear sh; (try clear F)
    (try simp only [])
    iterate 3 (first | go_big_quiet_skip | (go_big_quiet_want; go_big_quiet_op; first | go_big_quiet_on | (refine ⟨_, fun _ _ => rfl, ?_⟩; go_big_quiet_on)))
    (first | go_big_quiet_skip | (go_big_quiet_want; refine Hp.quiet_val _ (fun W hW => by have F := Hp.Sh.facts hW; have hd := Hp.Sh.data hW; (try simp only [Hp.Facts, Hp.CellsAt, Nat.reduceAdd, Hp.c1, Hp.c2] at F); skip; go_simp; rfl) ?_; (try simp only [Act.put, Hp.p1, Hp.p2, Hp.p3]); go_big_quiet_on) | (go_big_quiet_want; refine Hp.quiet_val _ (fun W hW => by have F := Hp.Sh.facts hW; have hd := Hp.Sh.data hW; (try simp only [Hp.Facts, Hp.CellsAt, Nat.reduceAdd, Hp.c1, Hp.c2] at F); skip; go_simp) ?_; (try simp only [Act.put, Hp.p1, Hp.p2, Hp.p3]); go_big_quiet_on))
    iterate 5 (first | go_big_quiet_skip | (go_big_quiet_want; go_big_quiet_op; first | go_big_quiet_on | (refine ⟨_, fun _ _ => rfl, ?_⟩; go_big_quiet_on)))
    (first | go_big_quiet_skip | (go_big_quiet_want; refine Hp.quiet_val _ (fun W hW => by have F := Hp.Sh.facts hW; have hd := Hp.Sh.data hW; (try simp only [Hp.Facts, Hp.CellsAt, Nat.reduceAdd, Hp.c1, Hp.c2] at F); skip; go_simp; rfl) ?_; (try simp only [Act.put, Hp.p1, Hp.p2, Hp.p3]); go_big_quiet_on) | (go_big_quiet_want; refine Hp.quiet_val _ (fun W hW => by have F := Hp.Sh.facts hW; have hd := Hp.Sh.data hW; (try simp only [Hp.Facts, Hp.CellsAt, Nat.reduceAdd, Hp.c1, Hp.c2] at F); skip; go_simp) ?_; (try simp only [Act.put, Hp.p1, Hp.p2, Hp.p3]); go_big_quiet_on))
    iterate 4 (first | go_big_quiet_skip | (go_big_quiet_want; go_big_quiet_op; first | go_big_quiet_on | (refine ⟨_, fun _ _ => rfl, ?_⟩; go_big_quiet_on)))
    (first | go_big_quiet_skip | (go_big_quiet_want; refine Hp.quiet_val _ (fun W hW => by have F := Hp.Sh.facts hW; have hd := Hp.Sh.data hW; (try simp only [Hp.Facts, Hp.CellsAt, Nat.reduceAdd, Hp.c1, Hp.c2] at F); skip; go_simp; rfl) ?_; (try simp only [Act.put, Hp.p1, Hp.p2, Hp.p3]); go_big_quiet_on) | (go_big_quiet_want; refine Hp.quiet_val _ (fun W hW => by have F := Hp.Sh.facts hW; have hd := Hp.Sh.data hW; (try simp only [Hp.Facts, Hp.CellsAt, Nat.reduceAdd, Hp.c1, Hp.c2] at F); skip; go_simp) ?_; (try simp only [Act.put, Hp.p1, Hp.p2, Hp.p3]); go_big_quiet_on))
    iterate 3 (first | go_big_quiet_skip | (go_big_quiet_want; go_big_quiet_op; first | go_big_quiet_on | (refine ⟨_, fun _ _ => rfl, ?_⟩; go_big_quiet_on)))
    refine wpQuiet_nil ?_; intro w1 sh; have F := sh.fx
    go_wp2
    go_ret
    exact ⟨ret_bool (by rw [Bool.eq_iff_iff]; simp; omega), sh.below⟩

theorem Tryd.s_ev : (Tryd.prog.info? 47).map (·.size) = some 6 := by kernel_rfl
set_option maxHeartbeats 4000000 in set_option maxRecDepth 100000 in
theorem erun (s : Option Addr) (L : List EvP.Ev) (n c : Nat) (hn : n = L.length) (hnc : n ≤ c) (hm : n ≤ 2000) (hB : ∀ x ∈ L, EvP.EvB x) (w : World) (hR : Hp.RdV w s (L.flatMap EvP.evc)) :
    Calls Tryd.prog 19 #[.slice s n c] w fun e w' => e = .returned (.bool (EvP.runB L)) ∧ Below w.heap.size w w' := by
  have sh := Hp.Sh.start (RdV_rob hR)
  have HL := Lib.hid hn
  have HB := Lib.hid hB
  clear hn hB hR
  go_enter Tryd.func19, Tryd.ntmps19
  have F := sh.fx
  go_wp2_with (first
      | ((with_reducible first | refine Hp.wpl_box sh ?_ ?_ | refine Hp.wpa sh ?_ ?_ | refine Hp.atl_store ?_ ?_); exact rfl; (try (refine Hp.wsB sh ?_)); clear sh; (try clear F); go_simp; (first | intro b w1 sh | intro w1 sh); have F := sh.fx)
      | fail)
  go_loopw [7] (fun i wr => ∃ k : Nat, i = .int .i64 k ∧ k ≤ n ∧ Hid (∀ j, j < k → EvP.okAt L j = true) ∧ Hp.Sh w wr [] (fun W => Hp.RdV W s (L.flatMap EvP.evc))) (fun i _ => n - (intOf i).toNat)
  case atStart => exact ⟨0, rfl, by omega, fun j hj => by omega, sh⟩
  case round =>
    clear sh F
    obtain ⟨k, rfl, hk, HM, sh⟩ := hrel
    have F := sh.fx
    by_cases hlt : k < n
    · have hlI : (k : Int) < (n : Int) := by omega
      have hkL : k < L.length := by rw [← HL.out]; exact hlt
      obtain ⟨p, hp, -⟩ := sh.data (Hp.flat_pos EvP.evc_len (by decide) hkL)
      subst hp
      rcases hx : L[k] with ⟨q, t, r, m, a, b⟩
      obtain ⟨q0, q1, q2, q3, q4, q5⟩ := EvP.ev_cells sh.data hkL hx
      have hb := HB.out _ (List.getElem_mem hkL)
      rw [hx] at hb
      obtain ⟨b1, b2, b3, b4, b5, b6⟩ := hb
      dsimp only at b1 b2 b3 b4 b5 b6
      have H1 := fun W => eis q t r m a b W b1 b2 b3 b4 b5 b6
      clear b1 b2 b3 b4 b5 b6
      cases k with
      | zero =>
        rw [EvP.add_z] at q0 q1 q2 q3 q4 q5
        have hok := EvP.okAt_first hkL
        have hx' : L[0] = (q, t, r, m, a, b) := hx
        rw [hx'] at hok
        have d1 : decide ((0 : Int) < 0) = false := rfl
        cases hi : EvP.isB (q, t, r, m, a, b) with
        | true =>
          rw [hi] at H1 hok
          have H2 := Lib.hid H1
          have HO := Lib.hid (EvP.ok_step HM.out hok)
          clear H1 hx hx' hok hi hkL
          have tok_bx : True := trivial
          go_wp2_with (first
              | ((with_reducible first | refine Hp.wpl_box sh ?_ ?_ | refine Hp.wpa sh ?_ ?_ | refine Hp.atl_store ?_ ?_); exact rfl; (try (refine Hp.wsB sh ?_)); clear sh; (try clear F); go_simp; (first | (have tok := tok_bx; clear tok tok_bx; intro bx w1 sh) | intro b w1 sh | intro w1 sh); have F := sh.fx)
              | fail)
          go_fit (H2.out _)
          rintro e w1 ⟨rfl, hb⟩
          replace sh := sh.call hb; clear hb; (try clear F); have F := sh.fx
          go_wp2_with (first
              | ((with_reducible first | refine Hp.wpl_box sh ?_ ?_ | refine Hp.wpa sh ?_ ?_ | refine Hp.atl_store ?_ ?_); exact rfl; (try (refine Hp.wsB sh ?_)); clear sh; (try clear F); go_simp; (first | intro b w1 sh | intro w1 sh); have F := sh.fx)
              | fail)
          go_roundw
          case rel => exact ⟨1, by go_num, by omega, HO.out, sh.drop1⟩
          case measure => simp [intOf]; omega
        | false =>
          rw [hi] at H1 hok
          have H2 := Lib.hid H1
          have HO := Lib.hid (EvP.runB_false hkL hok)
          clear H1 hx hx' hok hi hkL
          have tok_bx : True := trivial
          go_wp2_with (first
              | ((with_reducible first | refine Hp.wpl_box sh ?_ ?_ | refine Hp.wpa sh ?_ ?_ | refine Hp.atl_store ?_ ?_); exact rfl; (try (refine Hp.wsB sh ?_)); clear sh; (try clear F); go_simp; (first | (have tok := tok_bx; clear tok tok_bx; intro bx w1 sh) | intro b w1 sh | intro w1 sh); have F := sh.fx)
              | fail)
          go_fit (H2.out _)
          rintro e w1 ⟨rfl, hb⟩
          replace sh := sh.call hb; clear hb; (try clear F); have F := sh.fx
          go_wp2_with (first
              | ((with_reducible first | refine Hp.wpl_box sh ?_ ?_ | refine Hp.wpa sh ?_ ?_ | refine Hp.atl_store ?_ ?_); exact rfl; (try (refine Hp.wsB sh ?_)); clear sh; (try clear F); go_simp; (first | intro b w1 sh | intro w1 sh); have F := sh.fx)
              | fail)
          go_ret
          exact ⟨ret_bool HO.out.symm, sh.below⟩
      | succ j =>
        have hok := EvP.okAt_next hkL
        rw [hx] at hok
        have H3 := fun W h => efollows p L j hkL HB.out W h
        rw [hx] at H3
        dsimp only at H3 hok
        have d1 : decide ((0 : Int) < ((j + 1 : Nat) : Int)) = true := decide_eq_true (by omega)
        cases hi : EvP.isB (q, t, r, m, a, b) with
        | false =>
          rw [hi] at H1 hok
          have H2 := Lib.hid H1
          have HO := Lib.hid (EvP.runB_false hkL hok)
          clear H1 hx hok hi hkL H3
          have tok_bx : True := trivial
          go_wp2_with (first
              | ((with_reducible first | refine Hp.wpl_box sh ?_ ?_ | refine Hp.wpa sh ?_ ?_ | refine Hp.atl_store ?_ ?_); exact rfl; (try (refine Hp.wsB sh ?_)); clear sh; (try clear F); go_simp; (first | (have tok := tok_bx; clear tok tok_bx; intro bx w1 sh) | intro b w1 sh | intro w1 sh); have F := sh.fx)
              | fail)
          go_fit (H2.out _)
          rintro e w1 ⟨rfl, hb⟩
          replace sh := sh.call hb; clear hb; (try clear F); have F := sh.fx
          go_wp2_with (first
              | ((with_reducible first | refine Hp.wpl_box sh ?_ ?_ | refine Hp.wpa sh ?_ ?_ | refine Hp.atl_store ?_ ?_); exact rfl; (try (refine Hp.wsB sh ?_)); clear sh; (try clear F); go_simp; (first | intro b w1 sh | intro w1 sh); have F := sh.fx)
              | fail)
          go_ret
          exact ⟨ret_bool HO.out.symm, sh.below⟩
        | true =>
          rw [hi] at H1 hok
          have H2 := Lib.hid H1
          cases hf : EvP.fol L[j].1 q with
          | true =>
            rw [hf] at H3 hok
            have H4 := Lib.hid H3
            have HO := Lib.hid (EvP.ok_step HM.out hok)
            clear H1 hx hok hi hkL H3 hf
            have tok_bx : True := trivial
            go_wp2_with (first
                | ((with_reducible first | refine Hp.wpl_box sh ?_ ?_ | refine Hp.wpa sh ?_ ?_ | refine Hp.atl_store ?_ ?_); exact rfl; (try (refine Hp.wsB sh ?_)); clear sh; (try clear F); go_simp; (first | (have tok := tok_bx; clear tok tok_bx; intro bx w1 sh) | intro b w1 sh | intro w1 sh); have F := sh.fx)
                | fail)
            go_fit (H2.out _)
            rintro e w1 ⟨rfl, hb⟩
            replace sh := sh.call hb; clear hb; (try clear F); have F := sh.fx
            go_wp2_with (first
                | ((with_reducible refine Hp.wpl_cut2 Tryd.underlying24 Tryd.s_ev j ?_ rfl rfl rfl rfl (by omega) (by omega) (by omega) (by omega) ?_); exact rfl; go_simp)
                | ((with_reducible first | refine Hp.wpl_box sh ?_ ?_ | refine Hp.wpa sh ?_ ?_ | refine Hp.atl_store ?_ ?_); exact rfl; (try (refine Hp.wsB sh ?_)); clear sh; (try clear F); go_simp; (first | intro b w1 sh | intro w1 sh); have F := sh.fx)
                | fail)
            go_fit (H4.out _ sh.data)
            rintro e w1 ⟨rfl, hb⟩
            replace sh := sh.call hb; clear hb; (try clear F); have F := sh.fx
            go_wp2_with (first
                | ((with_reducible first | refine Hp.wpl_box sh ?_ ?_ | refine Hp.wpa sh ?_ ?_ | refine Hp.atl_store ?_ ?_); exact rfl; (try (refine Hp.wsB sh ?_)); clear sh; (try clear F); go_simp; (first | intro b w1 sh | intro w1 sh); have F := sh.fx)
                | fail)
            go_roundw
            case rel => exact ⟨j + 2, by go_num, by omega, HO.out, sh.drop1⟩
            case measure => simp [intOf]; omega
          | false =>
            rw [hf] at H3 hok
            have H4 := Lib.hid H3
            have HO := Lib.hid (EvP.runB_false hkL hok)
            clear H1 hx hok hi hkL H3 hf
            have tok_bx : True := trivial
            go_wp2_with (first
                | ((with_reducible first | refine Hp.wpl_box sh ?_ ?_ | refine Hp.wpa sh ?_ ?_ | refine Hp.atl_store ?_ ?_); exact rfl; (try (refine Hp.wsB sh ?_)); clear sh; (try clear F); go_simp; (first | (have tok := tok_bx; clear tok tok_bx; intro bx w1 sh) | intro b w1 sh | intro w1 sh); have F := sh.fx)
                | fail)
            go_fit (H2.out _)
            rintro e w1 ⟨rfl, hb⟩
            replace sh := sh.call hb; clear hb; (try clear F); have F := sh.fx
            go_wp2_with (first
                | ((with_reducible refine Hp.wpl_cut2 Tryd.underlying24 Tryd.s_ev j ?_ rfl rfl rfl rfl (by omega) (by omega) (by omega) (by omega) ?_); exact rfl; go_simp)
                | ((with_reducible first | refine Hp.wpl_box sh ?_ ?_ | refine Hp.wpa sh ?_ ?_ | refine Hp.atl_store ?_ ?_); exact rfl; (try (refine Hp.wsB sh ?_)); clear sh; (try clear F); go_simp; (first | intro b w1 sh | intro w1 sh); have F := sh.fx)
                | fail)
            go_fit (H4.out _ sh.data)
            rintro e w1 ⟨rfl, hb⟩
            replace sh := sh.call hb; clear hb; (try clear F); have F := sh.fx
            go_wp2_with (first
                | ((with_reducible first | refine Hp.wpl_box sh ?_ ?_ | refine Hp.wpa sh ?_ ?_ | refine Hp.atl_store ?_ ?_); exact rfl; (try (refine Hp.wsB sh ?_)); clear sh; (try clear F); go_simp; (first | intro b w1 sh | intro w1 sh); have F := sh.fx)
                | fail)
            go_ret
            exact ⟨ret_bool HO.out.symm, sh.below⟩
    · have hE : k = L.length := by rw [← HL.out]; omega
      have HO := Lib.hid (EvP.runB_true hE HM.out)
      go_wp2_with (first
          | ((with_reducible first | refine Hp.wpl_box sh ?_ ?_ | refine Hp.wpa sh ?_ ?_ | refine Hp.atl_store ?_ ?_); exact rfl; (try (refine Hp.wsB sh ?_)); clear sh; (try clear F); go_simp; (first | intro b w1 sh | intro w1 sh); have F := sh.fx)
          | fail)
      go_ret
      exact ⟨ret_bool HO.out.symm, sh.below⟩

end Go.Proofs.YtfcffglgkblidaaDoor
