
/-
  The walks of gather, Filter and the reference's Filter.
-/
import Derived.Test.YtgklleicoikcjaaQry4
namespace Go.Proofs.Ytgklleicoikcjaa
open Go.RowKit
set_option linter.unusedVariables false
set_option linter.unusedSimpArgs false

theorem wp_lits {P : Program} {w0 w : World} {H : List Hp.Blk} {D : World → Prop} {dst : Option Tmp} {ty : TypeId} {pos : String} {af : Array Edge} {g : Option (Nat × Bool)} {a : Act} {K : Act → World → Prop} {Q : Exit → Act → World → Prop} {T t : TypeId} {n m : Nat} {parts : List (Nat × Operand)} {c : Array Value}
    (h : ∀ w, (Instr.buildSlice T n (parts.toArray.map fun p => (p.1, a.eval p.2))).run P w = .ok (.slice (some ⟨w.heap.size, 0, none⟩) m m) (w.alloc (.cells c t))) (sh : Hp.Sh w0 w H D)
    (k : ∀ b w', Hp.Sh w0 w' ((b, c, t) :: H) D → K (a.put dst (.slice (some ⟨b, 0, none⟩) m m)) w') : Oper.wp P ⟨dst, .buildSlice T n parts.toArray, ty, pos, af, g⟩ a w K Q := by
  have := k _ _ (sh.alloc c t)
  have hr := h w
  rw [List.map_toArray] at hr
  simpa [Oper.wp, execOp, hr, Oper.upon, Result.andThen] using this
/-- Blocks change places. -/
theorem Hp.Sh.swapA {w0 w : World} {A R H : List Hp.Blk} {D : World → Prop} (sh : Hp.Sh w0 w (A ++ (R ++ H)) D) : Hp.Sh w0 w (R ++ (A ++ H)) D := sh.perm (List.perm_append_comm_assoc _ _ _)
namespace QryP
theorem gath_stop {q : Qy} {x : Ev} {r T : List Ev} (h : q.2.2.2.2.2.2 ≤ (T.length : Int)) : gath q (x :: r) T = (T, 0) := by rw [gath, if_pos h]
theorem gath_yes {q : Qy} {x : Ev} {r T : List Ev} (h : ¬ q.2.2.2.2.2.2 ≤ (T.length : Int)) (hf : fit q x = true) : gath q (x :: r) T = ((gath q r (T ++ [x])).1, (gath q r (T ++ [x])).2 + 1) := by rw [gath, if_neg h, if_pos hf]
theorem gath_no {q : Qy} {x : Ev} {r T : List Ev} (h : ¬ q.2.2.2.2.2.2 ≤ (T.length : Int)) (hf : fit q x = false) : gath q (x :: r) T = ((gath q r T).1, (gath q r T).2 + 1) := by rw [gath, if_neg h, if_neg (by rw [hf]; decide)]
theorem gath_len (q : Qy) : ∀ (l T : List Ev), (gath q l T).1.length ≤ T.length + l.length ∧ (gath q l T).2 ≤ l.length
  | [], T => ⟨by simp [gath], by simp [gath]⟩
  | x :: r, T => by
    by_cases h : q.2.2.2.2.2.2 ≤ (T.length : Int)
    · rw [gath_stop h]; simp
    · cases hf : fit q x with
      | true =>
        rw [gath_yes h hf]
        have := gath_len q r (T ++ [x])
        simp only [List.length_append, List.length_cons, List.length_nil] at this ⊢
        omega
      | false =>
        rw [gath_no h hf]
        have := gath_len q r T
        simp only [List.length_cons] at this ⊢
        omega
theorem drop_get {l : List Ev} {k : Nat} (h : k < l.length) : l.drop k = l[k] :: l.drop (k + 1) := List.drop_eq_getElem_cons h
theorem evs_app (A : List Ev) (x : Ev) : A.flatMap EvP.evc ++ EvP.evc x = (A ++ [x]).flatMap EvP.evc := by simp
/-- What has been gathered after k. -/
def At (q : Qy) (l T : List Ev) (k : Nat) (Tk : List Ev) : Prop := gath q l T = ((gath q (l.drop k) Tk).1, k + (gath q (l.drop k) Tk).2) ∧ Tk.length ≤ T.length + k
theorem At.start (q : Qy) (l T : List Ev) : At q l T 0 T := ⟨by simp, by omega⟩
theorem At.stop {q : Qy} {l T Tk : List Ev} {k : Nat} (h : At q l T k Tk) (hk : k < l.length) (hm : q.2.2.2.2.2.2 ≤ (Tk.length : Int)) : gath q l T = (Tk, k) := by
  rw [h.1, drop_get hk, gath_stop hm]; rfl
theorem At.yes {q : Qy} {l T Tk : List Ev} {k : Nat} {x : Ev} (h : At q l T k Tk) (hk : k < l.length) (hx : l[k] = x) (hm : ¬ q.2.2.2.2.2.2 ≤ (Tk.length : Int)) (hf : fit q x = true) : At q l T (k + 1) (Tk ++ [x]) := by
  refine ⟨?_, by have := h.2; simp; omega⟩
  rw [h.1, drop_get hk, hx, gath_yes hm hf]
  refine Prod.ext rfl ?_
  show k + (_ + 1) = k + 1 + _
  omega
theorem At.no {q : Qy} {l T Tk : List Ev} {k : Nat} {x : Ev} (h : At q l T k Tk) (hk : k < l.length) (hx : l[k] = x) (hm : ¬ q.2.2.2.2.2.2 ≤ (Tk.length : Int)) (hf : fit q x = false) : At q l T (k + 1) Tk := by
  refine ⟨?_, by have := h.2; omega⟩
  rw [h.1, drop_get hk, hx, gath_no hm hf]
  refine Prod.ext rfl ?_
  show k + (_ + 1) = k + 1 + _
  omega
theorem At.full {q : Qy} {l T Tk : List Ev} {k : Nat} (h : At q l T k Tk) (hk : l.length ≤ k) : gath q l T = (Tk, k) := by
  rw [h.1, List.drop_eq_nil_of_le hk]; rfl
/-- What gather leaves. -/
def GatP (G : List Ev × Nat) (w0 : World) (H : List Hp.Blk) (D : World → Prop) (e : Ending) (w' : World) : Prop := ∃ v R, e = .returned (.tuple #[v, .int .i64 (G.2 : Int)]) ∧ Hp.Sh w0 w' (R ++ H) D ∧ Hp.RowIs 33 6 v G.1.length (G.1.flatMap EvP.evc) R
/-- A row told by itself. -/
def FilP (L : List Ev) (w : World) (e : Ending) (w' : World) : Prop := ∃ s c, e = .returned (.slice s L.length c) ∧ (∀ p, s = some p → w.heap.size ≤ p.block) ∧ Hp.RdV w' s (L.flatMap EvP.evc) ∧ Below w.heap.size w w' ∧ L.length ≤ c ∧ c ≤ maxLen ∧ (s = none → L.length = 0 ∧ c = 0)
end QryP

theorem Try.i_evt : (Try.prog.info? 33).map (fun i => (i.zero, i.size, i.bytes)) = some (some (.agg #[.int .u64 0, .int .i64 0, .int .i64 0, .int .i64 0, .int .i64 0, .int .i64 0]), 6, 48) := by kernel_rfl

end Go.Proofs.Ytgklleicoikcjaa