
/-
  The walks of gather, Filter and the reference's Filter.
-/
import Derived.Test.YtedcnoajadnhnaaQry4
namespace Go.Proofs.Ytedcnoajadnhnaa
open Go.RowKit
set_option linter.unusedVariables false
set_option linter.unusedSimpArgs false

theorem wp_lits {P : Program} {w0 w : World} {H : List Hp.Blk} {D : World → Prop} {dst : Option Tmp} {ty : TypeId} {pos : String} {af : Array Edge} {g : Option (Nat × Bool)} {a : Act} {K : Act → World → Prop} {Q : Exit → Act → World → Prop} {T t : TypeId} {n m : Nat} {parts : List (Nat × Operand)} {c : Array Value}
    (h : ∀ w, (Instr.buildSlice T n (parts.toArray.map fun p => (p.1, a.eval p.2))).run P w = .ok (.slice (some ⟨w.heap.size, 0, none⟩) m m) (w.alloc (.cells c t))) (sh : Hp.Sh w0 w H D)
    (k : ∀ b w', Hp.Sh w0 w' ((b, c, t) :: H) D → K (a.put dst (.slice (some ⟨b, 0, none⟩) m m)) w') : Oper.wp P ⟨dst, .buildSlice T n parts.toArray, ty, pos, af, g⟩ a w K Q := by
  have := k _ _ (sh.alloc c t)
  have hr := h w
  rw [List.map_toArray] at hr
  simpa [Oper.wp, execOp, hr, Oper.upon, Result.andThen] using this
/-- Blocks change places. -/
theorem Hp.Sh.swapA {w0 w : World} {A R H : List Hp.Blk} {D : World → Prop} (sh : Hp.Sh w0 w (A ++ (R ++ H)) D) : Hp.Sh w0 w (R ++ (A ++ H)) D := sh.perm (List.perm_append_comm_assoc _ _ _)
namespace QryP
theorem gath_stop {q : Qy} {x : Ev} {r T : List Ev} (h : q.2.2.2.2.2.2 ≤ (T.length : Int)) : gath q (x :: r) T = (T, 0) := by rw [gath, if_pos h]
theorem gath_yes {q : Qy} {x : Ev} {r T : List Ev} (h : ¬ q.2.2.2.2.2.2 ≤ (T.length : Int)) (hf : fit q x = true) : gath q (x :: r) T = ((gath q r (T ++ [x])).1, (gath q r (T ++ [x])).2 + 1) := by rw [gath, if_neg h, if_pos hf]
theorem gath_no {q : Qy} {x : Ev} {r T : List Ev} (h : ¬ q.2.2.2.2.2.2 ≤ (T.length : Int)) (hf : fit q x = false) : gath q (x :: r) T = ((gath q r T).1, (gath q r T).2 + 1) := by rw [gath, if_neg h, if_neg (by rw [hf]; decide)]
theorem gath_len (q : Qy) : ∀ (l T : List Ev), (gath q l T).1.length ≤ T.length + l.length ∧ (gath q l T).2 ≤ l.length
  | [], T => ⟨by simp [gath], by simp [gath]⟩
  | x :: r, T => by
    by_cases h : q.2.2.2.2.2.2 ≤ (T.length : Int)
    · rw [gath_stop h]; simp
    · cases hf : fit q x with
      | true =>
        rw [gath_yes h hf]
        have := gath_len q r (T ++ [x])
        simp only [List.length_append, List.length_cons, List.length_nil] at this ⊢
        omega
      | false =>
        rw [gath_no h hf]
        have := gath_len q r T
        simp only [List.length_cons] at this ⊢
        omega
theorem drop_get {l : List Ev} {k : Nat} (h : k < l.length) : l.drop k = l[k] :: l.drop (k + 1) := List.drop_eq_getElem_cons h
theorem evs_app (A : List Ev) (x : Ev) : A.flatMap EvP.evc ++ EvP.evc x = (A ++ [x]).flatMap EvP.evc := by simp
/-- What has been gathered after k. -/
def At (q : Qy) (l T : List Ev) (k : Nat) (Tk : List Ev) : Prop := gath q l T = ((gath q (l.drop k) Tk).1, k + (gath q (l.drop k) Tk).2) ∧ Tk.length ≤ T.length + k
theorem At.start (q : Qy) (l T : List Ev) : At q l T 0 T := ⟨by simp, by omega⟩
theorem At.stop {q : Qy} {l T Tk : List Ev} {k : Nat} (h : At q l T k Tk) (hk : k < l.length) (hm : q.2.2.2.2.2.2 ≤ (Tk.length : Int)) : gath q l T = (Tk, k) := by
  rw [h.1, drop_get hk, gath_stop hm]; rfl
theorem At.yes {q : Qy} {l T Tk : List Ev} {k : Nat} {x : Ev} (h : At q l T k Tk) (hk : k < l.length) (hx : l[k] = x) (hm : ¬ q.2.2.2.2.2.2 ≤ (Tk.length : Int)) (hf : fit q x = true) : At q l T (k + 1) (Tk ++ [x]) := by
  refine ⟨?_, by have := h.2; simp; omega⟩
  rw [h.1, drop_get hk, hx, gath_yes hm hf]
  refine Prod.ext rfl ?_
  show k + (_ + 1) = k + 1 + _
  omega
theorem At.no {q : Qy} {l T Tk : List Ev} {k : Nat} {x : Ev} (h : At q l T k Tk) (hk : k < l.length) (hx : l[k] = x) (hm : ¬ q.2.2.2.2.2.2 ≤ (Tk.length : Int)) (hf : fit q x = false) : At q l T (k + 1) Tk := by
  refine ⟨?_, by have := h.2; omega⟩
  rw [h.1, drop_get hk, hx, gath_no hm hf]
  refine Prod.ext rfl ?_
  show k + (_ + 1) = k + 1 + _
  omega
theorem At.full {q : Qy} {l T Tk : List Ev} {k : Nat} (h : At q l T k Tk) (hk : l.length ≤ k) : gath q l T = (Tk, k) := by
  rw [h.1, List.drop_eq_nil_of_le hk]; rfl
/-- What gather leaves. -/
def GatP (G : List Ev × Nat) (w0 : World) (H : List Hp.Blk) (D : World → Prop) (e : Ending) (w' : World) : Prop := ∃ v R, e = .returned (.tuple #[v, .int .i64 (G.2 : Int)]) ∧ Hp.Sh w0 w' (R ++ H) D ∧ Hp.RowIs 26 6 v G.1.length (G.1.flatMap EvP.evc) R
/-- A row told by itself. -/
def FilP (L : List Ev) (w : World) (e : Ending) (w' : World) : Prop := ∃ s c, e = .returned (.slice s L.length c) ∧ (∀ p, s = some p → w.heap.size ≤ p.block) ∧ Hp.RdV w' s (L.flatMap EvP.evc) ∧ Below w.heap.size w w' ∧ L.length ≤ c ∧ c ≤ maxLen ∧ (s = none → L.length = 0 ∧ c = 0)
end QryP

theorem Try.i_evt : (Try.prog.info? 26).map (fun i => (i.zero, i.size, i.bytes)) = some (some (.agg #[.int .u64 0, .int .i64 0, .int .i64 0, .int .i64 0, .int .i64 0, .int .i64 0]), 6, 48) := by kernel_rfl

set_option maxHeartbeats 4000000 in
set_option maxRecDepth 100000 in
theorem qgather (f u lo hi ps ks mo : Int) (hf : 0 ≤ f ∧ f ≤ 18446744073709551615) (hu : 0 ≤ u ∧ u ≤ 18446744073709551615) (hlo : -9223372036854775808 ≤ lo ∧ lo ≤ 9223372036854775807) (hhi : -9223372036854775808 ≤ hi ∧ hi ≤ 9223372036854775807) (hps : 0 ≤ ps ∧ ps ≤ 18446744073709551615) (hks : 0 ≤ ks ∧ ks ≤ 18446744073709551615) (hmo : -9223372036854775808 ≤ mo ∧ mo ≤ 9223372036854775807) (s0 : Option Addr) (l : List EvP.Ev) (n c : Nat) (hn : n = l.length) (hnc : n ≤ c) (hm : n ≤ 100000) (hB : ∀ x ∈ l, EvP.EvB x) {w0 w : World} {H R : List Hp.Blk} {D : World → Prop} (hD : ∀ W, D W → Hp.RdV W s0 (l.flatMap EvP.evc)) {v : Value} {T : List EvP.Ev} (hT : T.length ≤ 100000) (sh : Hp.Sh w0 w (R ++ H) D) (hr : Hp.RowIs 26 6 v T.length (T.flatMap EvP.evc) R) :
    Calls Try.prog 42 #[.agg #[.int .u64 f, .int .u64 u, .int .i64 lo, .int .i64 hi, .int .u64 ps, .int .u64 ks, .int .i64 mo], .slice s0 n c, v] w fun e w' => QryP.GatP (QryP.gath (f, u, lo, hi, ps, ks, mo) l T) w0 H D e w' := by
  have HL := Lib.hid hn
  have HB := Lib.hid hB
  have HD := Lib.hid hD
  have HR := Lib.hid hr
  obtain ⟨sv, cv, rfl, -, -, -⟩ := hr.slice
  have HT0 : T.length ≤ 100000 := hT
  clear hn hB hD hr hT
  go_enter Try.func42, Try.ntmps42
  have F : True := trivial
  have tok_bq : True := trivial
  go_wp2_with (first
      | ((have tok := tok_bq); clear tok tok_bq; (first | (with_reducible refine Hp.wpl_box sh ?_ ?_) | (with_reducible refine Hp.wpl_alloc Try.z_ev sh ?_ ?_)); exact rfl; clear sh; (try clear F); go_simp; intro bq w1 sh; have F := sh.facts; (try simp only [Hp.Facts, Hp.CellsAt, Nat.reduceAdd, List.cons_append, List.nil_append] at F))
      | ((with_reducible refine Hp.wpl_box sh ?_ ?_); exact rfl; clear sh; (try clear F); go_simp; intro b w1 sh; have F := sh.facts; (try simp only [Hp.Facts, Hp.CellsAt, Nat.reduceAdd, List.cons_append, List.nil_append] at F))
      | ((with_reducible refine Hp.wpl_alloc Try.z_ev sh ?_ ?_); exact rfl; clear sh; (try clear F); go_simp; intro b w1 sh; have F := sh.facts; (try simp only [Hp.Facts, Hp.CellsAt, Nat.reduceAdd, List.cons_append, List.nil_append] at F))
      | ((with_reducible refine Hp.atl_store ?_ ?_); exact rfl; (first | refine Hp.wp_store 0 sh rfl rfl rfl rfl (by kernel_rfl) (Nat.le_of_ble_eq_true rfl) rfl ?_ | refine Hp.wp_store 1 sh rfl rfl rfl rfl (by kernel_rfl) (Nat.le_of_ble_eq_true rfl) rfl ?_ | refine Hp.wp_store 2 sh rfl rfl rfl rfl (by kernel_rfl) (Nat.le_of_ble_eq_true rfl) rfl ?_ | refine Hp.wp_store 3 sh rfl rfl rfl rfl (by kernel_rfl) (Nat.le_of_ble_eq_true rfl) rfl ?_ | refine Hp.wp_store 4 sh rfl rfl rfl rfl (by kernel_rfl) (Nat.le_of_ble_eq_true rfl) rfl ?_ | refine Hp.wp_store 5 sh rfl rfl rfl rfl (by kernel_rfl) (Nat.le_of_ble_eq_true rfl) rfl ?_ | refine Hp.wp_store 6 sh rfl rfl rfl rfl (by kernel_rfl) (Nat.le_of_ble_eq_true rfl) rfl ?_); clear sh; (try clear F); go_simp; intro w1 sh; have F := sh.facts; (try simp only [Hp.Facts, Hp.CellsAt, Nat.reduceAdd, List.cons_append, List.nil_append] at F))
      | fail)
  go_loopw [2, 12] (fun v i wr => ∃ (k : Nat) (R : List Hp.Blk) (Tk : List EvP.Ev), i = .int .i64 k ∧ k ≤ n ∧ Hid (Hp.RowIs 26 6 v Tk.length (Tk.flatMap EvP.evc) R ∧ QryP.At (f, u, lo, hi, ps, ks, mo) l T k Tk) ∧ Hp.Sh w0 wr ((bq, #[.int .u64 f, .int .u64 u, .int .i64 lo, .int .i64 hi, .int .u64 ps, .int .u64 ks, .int .i64 mo], 24) :: (R ++ H)) D) (fun _ i _ => n - (intOf i).toNat)
  case atStart => exact ⟨0, R, T, rfl, by omega, ⟨HR.out, QryP.At.start _ _ _⟩, sh⟩
  case round =>
    clear sh F HR
    obtain ⟨k, R, Tk, rfl, hk, HK, sh⟩ := hrel
    have HR := Lib.hid HK.out.1
    obtain ⟨s1, c1, rfl, -, -, -⟩ := HR.out.slice
    have htk : Tk.length ≤ 200000 := by have := HK.out.2.2; omega
    by_cases hlt : k < n
    · have hlI : (k : Int) < (n : Int) := by omega
      have hkL : k < l.length := by rw [← HL.out]; exact hlt
      have hpp := HD.out _ sh.data
      obtain ⟨pp, hp, -⟩ := hpp (Hp.flat_pos EvP.evc_len (by decide) hkL)
      subst hp
      rcases hx : l[k] with ⟨s, t, p, kd, a, b⟩
      have hb := HB.out _ (List.getElem_mem hkL)
      rw [hx] at hb
      obtain ⟨hs, ht, hp, hkd, ha, hb⟩ := hb
      dsimp only at hs ht hp hkd ha hb
      have HX := Lib.hid hx
      have hE : Hp.RdV _ _ _ := HD.out _ sh.data
      have HC := Lib.hid (fun W (q : D W) => EvP.ev_cells (HD.out _ q) hkL HX.out)
      by_cases hmo : mo ≤ (Tk.length : Int)
      · have HG := Lib.hid (QryP.At.stop HK.out.2 hkL hmo)
        clear hs ht hp hkd ha hb hx hpp hE
        obtain ⟨q0, q1, q2, q3, q4, q5⟩ := HC.out _ sh.data
        have F := sh.facts; (try simp only [Hp.Facts, Hp.CellsAt, Nat.reduceAdd, List.cons_append, List.nil_append] at F)
        have tok_bx : True := trivial
        go_wp2_with (first
            | ((have tok := tok_bx); clear tok tok_bx; (first | (with_reducible refine Hp.wpl_box sh ?_ ?_) | (with_reducible refine Hp.wpl_alloc Try.z_ev sh ?_ ?_)); exact rfl; clear sh; (try clear F); go_simp; intro bx w1 sh; have F := sh.facts; (try simp only [Hp.Facts, Hp.CellsAt, Nat.reduceAdd, List.cons_append, List.nil_append] at F))
            | ((with_reducible refine Hp.wpl_box sh ?_ ?_); exact rfl; clear sh; (try clear F); go_simp; intro b w1 sh; have F := sh.facts; (try simp only [Hp.Facts, Hp.CellsAt, Nat.reduceAdd, List.cons_append, List.nil_append] at F))
            | ((with_reducible refine Hp.wpl_alloc Try.z_ev sh ?_ ?_); exact rfl; clear sh; (try clear F); go_simp; intro b w1 sh; have F := sh.facts; (try simp only [Hp.Facts, Hp.CellsAt, Nat.reduceAdd, List.cons_append, List.nil_append] at F))
            | ((with_reducible refine Hp.atl_store ?_ ?_); exact rfl; (first | refine Hp.wp_store 0 sh rfl rfl rfl rfl (by kernel_rfl) (Nat.le_of_ble_eq_true rfl) rfl ?_ | refine Hp.wp_store 1 sh rfl rfl rfl rfl (by kernel_rfl) (Nat.le_of_ble_eq_true rfl) rfl ?_ | refine Hp.wp_store 2 sh rfl rfl rfl rfl (by kernel_rfl) (Nat.le_of_ble_eq_true rfl) rfl ?_ | refine Hp.wp_store 3 sh rfl rfl rfl rfl (by kernel_rfl) (Nat.le_of_ble_eq_true rfl) rfl ?_ | refine Hp.wp_store 4 sh rfl rfl rfl rfl (by kernel_rfl) (Nat.le_of_ble_eq_true rfl) rfl ?_ | refine Hp.wp_store 5 sh rfl rfl rfl rfl (by kernel_rfl) (Nat.le_of_ble_eq_true rfl) rfl ?_ | refine Hp.wp_store 6 sh rfl rfl rfl rfl (by kernel_rfl) (Nat.le_of_ble_eq_true rfl) rfl ?_); clear sh; (try clear F); go_simp; intro w1 sh; have F := sh.facts; (try simp only [Hp.Facts, Hp.CellsAt, Nat.reduceAdd, List.cons_append, List.nil_append] at F))
            | fail)
        go_ret2
        exact ⟨.slice s1 Tk.length c1, R, (by rw [HG.out]; rfl), (sh.drop2 : _), by rw [HG.out]; exact HR.out⟩
      · have K := Lib.hid (fun W => qfits f u lo hi ps ks mo s t p kd a b W hs ht hp hkd ha hb)
        cases hf : QryP.fit (f, u, lo, hi, ps, ks, mo) (s, t, p, kd, a, b) with
        | true =>
          rw [hf] at K
          have HA := Lib.hid (QryP.At.yes HK.out.2 hkL HX.out hmo hf)
          clear hs ht hp hkd ha hb hx hpp hE hf
          obtain ⟨q0, q1, q2, q3, q4, q5⟩ := HC.out _ sh.data
          have F := sh.facts; (try simp only [Hp.Facts, Hp.CellsAt, Nat.reduceAdd, List.cons_append, List.nil_append] at F)
          have tok_bx : True := trivial
          go_wp2_with (first
              | ((have tok := tok_bx); clear tok tok_bx; (first | (with_reducible refine Hp.wpl_box sh ?_ ?_) | (with_reducible refine Hp.wpl_alloc Try.z_ev sh ?_ ?_)); exact rfl; clear sh; (try clear F); go_simp; intro bx w1 sh; have F := sh.facts; (try simp only [Hp.Facts, Hp.CellsAt, Nat.reduceAdd, List.cons_append, List.nil_append] at F))
              | ((with_reducible refine Hp.wpl_box sh ?_ ?_); exact rfl; clear sh; (try clear F); go_simp; intro b w1 sh; have F := sh.facts; (try simp only [Hp.Facts, Hp.CellsAt, Nat.reduceAdd, List.cons_append, List.nil_append] at F))
              | ((with_reducible refine Hp.wpl_alloc Try.z_ev sh ?_ ?_); exact rfl; clear sh; (try clear F); go_simp; intro b w1 sh; have F := sh.facts; (try simp only [Hp.Facts, Hp.CellsAt, Nat.reduceAdd, List.cons_append, List.nil_append] at F))
              | ((with_reducible refine Hp.atl_store ?_ ?_); exact rfl; (first | refine Hp.wp_store 0 sh rfl rfl rfl rfl (by kernel_rfl) (Nat.le_of_ble_eq_true rfl) rfl ?_ | refine Hp.wp_store 1 sh rfl rfl rfl rfl (by kernel_rfl) (Nat.le_of_ble_eq_true rfl) rfl ?_ | refine Hp.wp_store 2 sh rfl rfl rfl rfl (by kernel_rfl) (Nat.le_of_ble_eq_true rfl) rfl ?_ | refine Hp.wp_store 3 sh rfl rfl rfl rfl (by kernel_rfl) (Nat.le_of_ble_eq_true rfl) rfl ?_ | refine Hp.wp_store 4 sh rfl rfl rfl rfl (by kernel_rfl) (Nat.le_of_ble_eq_true rfl) rfl ?_ | refine Hp.wp_store 5 sh rfl rfl rfl rfl (by kernel_rfl) (Nat.le_of_ble_eq_true rfl) rfl ?_ | refine Hp.wp_store 6 sh rfl rfl rfl rfl (by kernel_rfl) (Nat.le_of_ble_eq_true rfl) rfl ?_); clear sh; (try clear F); go_simp; intro w1 sh; have F := sh.facts; (try simp only [Hp.Facts, Hp.CellsAt, Nat.reduceAdd, List.cons_append, List.nil_append] at F))
              | fail)
          go_fit (K.out _)
          rintro e w1 ⟨rfl, hb⟩
          replace sh := sh.call hb; clear hb; (try clear F); have F := sh.facts; (try simp only [Hp.Facts, Hp.CellsAt, Nat.reduceAdd, List.cons_append, List.nil_append] at F)
          clear q0 q1 q2 q3 q4 q5
          replace sh : Hp.Sh w0 _ (R ++ ([_, _] ++ H)) D := Hp.Sh.swapA (A := [_, _]) sh
          go_wp2_with (first
              | ((with_reducible refine Hp.atl_lit ?_ ?_); exact rfl; (refine wp_lits (m := 1) (c := #[.int .u64 s, .int .i64 t, .int .i64 p, .int .i64 kd, .int .i64 a, .int .i64 b]) (t := 26) (fun w => by kernel_rfl) sh ?_); clear sh; (try clear F); intro bl w1 sh; replace sh := sh.freeze1 (vs := EvP.evc (s, t, p, kd, a, b)) (fun i v h => by simpa [EvP.evc] using h); (have F := sh.facts; (try simp only [Hp.Facts, Hp.CellsAt, Nat.reduceAdd, List.cons_append, List.nil_append] at F)); go_simp)
              | ((with_reducible refine Hp.atl_append 27 ?_ ?_); exact rfl; (refine Hp.wp_append (R := R) (H := [_, _] ++ H) (news := EvP.evc (s, t, p, kd, a, b)) Try.i_evt Try.underlying33 (by decide) rfl (by decide) sh HR.out rfl rfl rfl sh.data.1 (fun h => by cases h) (Hp.ones_mem rfl) (by omega) ?_); clear sh; (try clear F); intro v1 R1 w1 sh hr; rw [QryP.evs_app] at hr; obtain ⟨s2, c2, rfl, -, -, -⟩ := hr.slice; have HR1 := Lib.hid hr; clear hr; go_simp)
              | ((with_reducible refine Hp.wpl_box sh ?_ ?_); exact rfl; clear sh; (try clear F); go_simp; intro b w1 sh; have F := sh.facts; (try simp only [Hp.Facts, Hp.CellsAt, Nat.reduceAdd, List.cons_append, List.nil_append] at F))
              | ((with_reducible refine Hp.wpl_alloc Try.z_ev sh ?_ ?_); exact rfl; clear sh; (try clear F); go_simp; intro b w1 sh; have F := sh.facts; (try simp only [Hp.Facts, Hp.CellsAt, Nat.reduceAdd, List.cons_append, List.nil_append] at F))
              | ((with_reducible refine Hp.atl_store ?_ ?_); exact rfl; (first | refine Hp.wp_store 0 sh rfl rfl rfl rfl (by kernel_rfl) (Nat.le_of_ble_eq_true rfl) rfl ?_ | refine Hp.wp_store 1 sh rfl rfl rfl rfl (by kernel_rfl) (Nat.le_of_ble_eq_true rfl) rfl ?_ | refine Hp.wp_store 2 sh rfl rfl rfl rfl (by kernel_rfl) (Nat.le_of_ble_eq_true rfl) rfl ?_ | refine Hp.wp_store 3 sh rfl rfl rfl rfl (by kernel_rfl) (Nat.le_of_ble_eq_true rfl) rfl ?_ | refine Hp.wp_store 4 sh rfl rfl rfl rfl (by kernel_rfl) (Nat.le_of_ble_eq_true rfl) rfl ?_ | refine Hp.wp_store 5 sh rfl rfl rfl rfl (by kernel_rfl) (Nat.le_of_ble_eq_true rfl) rfl ?_ | refine Hp.wp_store 6 sh rfl rfl rfl rfl (by kernel_rfl) (Nat.le_of_ble_eq_true rfl) rfl ?_); clear sh; (try clear F); go_simp; intro w1 sh; have F := sh.facts; (try simp only [Hp.Facts, Hp.CellsAt, Nat.reduceAdd, List.cons_append, List.nil_append] at F))
              | fail)
          go_roundw
          case rel => exact ⟨k + 1, R1, Tk ++ [(s, t, p, kd, a, b)], by go_num, by omega, ⟨by have := HR1.out; simpa using this, HA.out⟩, ((Hp.Sh.swapA (A := R1) (R := [_, _]) sh).drop1 : Hp.Sh _ _ (_ :: (R1 ++ H)) _).imp fun _ h => h.2⟩
          case measure => simp [intOf]; omega
        | false =>
          rw [hf] at K
          have HA := Lib.hid (QryP.At.no HK.out.2 hkL HX.out hmo hf)
          clear hs ht hp hkd ha hb hx hpp hE hf
          obtain ⟨q0, q1, q2, q3, q4, q5⟩ := HC.out _ sh.data
          have F := sh.facts; (try simp only [Hp.Facts, Hp.CellsAt, Nat.reduceAdd, List.cons_append, List.nil_append] at F)
          have tok_bx : True := trivial
          go_wp2_with (first
              | ((have tok := tok_bx); clear tok tok_bx; (first | (with_reducible refine Hp.wpl_box sh ?_ ?_) | (with_reducible refine Hp.wpl_alloc Try.z_ev sh ?_ ?_)); exact rfl; clear sh; (try clear F); go_simp; intro bx w1 sh; have F := sh.facts; (try simp only [Hp.Facts, Hp.CellsAt, Nat.reduceAdd, List.cons_append, List.nil_append] at F))
              | ((with_reducible refine Hp.wpl_box sh ?_ ?_); exact rfl; clear sh; (try clear F); go_simp; intro b w1 sh; have F := sh.facts; (try simp only [Hp.Facts, Hp.CellsAt, Nat.reduceAdd, List.cons_append, List.nil_append] at F))
              | ((with_reducible refine Hp.wpl_alloc Try.z_ev sh ?_ ?_); exact rfl; clear sh; (try clear F); go_simp; intro b w1 sh; have F := sh.facts; (try simp only [Hp.Facts, Hp.CellsAt, Nat.reduceAdd, List.cons_append, List.nil_append] at F))
              | ((with_reducible refine Hp.atl_store ?_ ?_); exact rfl; (first | refine Hp.wp_store 0 sh rfl rfl rfl rfl (by kernel_rfl) (Nat.le_of_ble_eq_true rfl) rfl ?_ | refine Hp.wp_store 1 sh rfl rfl rfl rfl (by kernel_rfl) (Nat.le_of_ble_eq_true rfl) rfl ?_ | refine Hp.wp_store 2 sh rfl rfl rfl rfl (by kernel_rfl) (Nat.le_of_ble_eq_true rfl) rfl ?_ | refine Hp.wp_store 3 sh rfl rfl rfl rfl (by kernel_rfl) (Nat.le_of_ble_eq_true rfl) rfl ?_ | refine Hp.wp_store 4 sh rfl rfl rfl rfl (by kernel_rfl) (Nat.le_of_ble_eq_true rfl) rfl ?_ | refine Hp.wp_store 5 sh rfl rfl rfl rfl (by kernel_rfl) (Nat.le_of_ble_eq_true rfl) rfl ?_ | refine Hp.wp_store 6 sh rfl rfl rfl rfl (by kernel_rfl) (Nat.le_of_ble_eq_true rfl) rfl ?_); clear sh; (try clear F); go_simp; intro w1 sh; have F := sh.facts; (try simp only [Hp.Facts, Hp.CellsAt, Nat.reduceAdd, List.cons_append, List.nil_append] at F))
              | fail)
          go_fit (K.out _)
          rintro e w1 ⟨rfl, hb⟩
          replace sh := sh.call hb; clear hb; (try clear F); have F := sh.facts; (try simp only [Hp.Facts, Hp.CellsAt, Nat.reduceAdd, List.cons_append, List.nil_append] at F)
          clear q0 q1 q2 q3 q4 q5
          go_wp2_with (first
              | ((with_reducible refine Hp.wpl_box sh ?_ ?_); exact rfl; clear sh; (try clear F); go_simp; intro b w1 sh; have F := sh.facts; (try simp only [Hp.Facts, Hp.CellsAt, Nat.reduceAdd, List.cons_append, List.nil_append] at F))
              | ((with_reducible refine Hp.wpl_alloc Try.z_ev sh ?_ ?_); exact rfl; clear sh; (try clear F); go_simp; intro b w1 sh; have F := sh.facts; (try simp only [Hp.Facts, Hp.CellsAt, Nat.reduceAdd, List.cons_append, List.nil_append] at F))
              | ((with_reducible refine Hp.atl_store ?_ ?_); exact rfl; (first | refine Hp.wp_store 0 sh rfl rfl rfl rfl (by kernel_rfl) (Nat.le_of_ble_eq_true rfl) rfl ?_ | refine Hp.wp_store 1 sh rfl rfl rfl rfl (by kernel_rfl) (Nat.le_of_ble_eq_true rfl) rfl ?_ | refine Hp.wp_store 2 sh rfl rfl rfl rfl (by kernel_rfl) (Nat.le_of_ble_eq_true rfl) rfl ?_ | refine Hp.wp_store 3 sh rfl rfl rfl rfl (by kernel_rfl) (Nat.le_of_ble_eq_true rfl) rfl ?_ | refine Hp.wp_store 4 sh rfl rfl rfl rfl (by kernel_rfl) (Nat.le_of_ble_eq_true rfl) rfl ?_ | refine Hp.wp_store 5 sh rfl rfl rfl rfl (by kernel_rfl) (Nat.le_of_ble_eq_true rfl) rfl ?_ | refine Hp.wp_store 6 sh rfl rfl rfl rfl (by kernel_rfl) (Nat.le_of_ble_eq_true rfl) rfl ?_); clear sh; (try clear F); go_simp; intro w1 sh; have F := sh.facts; (try simp only [Hp.Facts, Hp.CellsAt, Nat.reduceAdd, List.cons_append, List.nil_append] at F))
              | fail)
          go_roundw
          case rel => exact ⟨k + 1, R, Tk, by go_num, by omega, ⟨HR.out, HA.out⟩, sh.drop1⟩
          case measure => simp [intOf]; omega
    · have HG := Lib.hid (QryP.At.full HK.out.2 (by have := HL.out; omega))
      have hkn : k = n := by omega
      have F : True := trivial
      go_wp2_with (first
          | ((with_reducible refine Hp.wpl_box sh ?_ ?_); exact rfl; clear sh; (try clear F); go_simp; intro b w1 sh; have F := sh.facts; (try simp only [Hp.Facts, Hp.CellsAt, Nat.reduceAdd, List.cons_append, List.nil_append] at F))
          | ((with_reducible refine Hp.wpl_alloc Try.z_ev sh ?_ ?_); exact rfl; clear sh; (try clear F); go_simp; intro b w1 sh; have F := sh.facts; (try simp only [Hp.Facts, Hp.CellsAt, Nat.reduceAdd, List.cons_append, List.nil_append] at F))
          | ((with_reducible refine Hp.atl_store ?_ ?_); exact rfl; (first | refine Hp.wp_store 0 sh rfl rfl rfl rfl (by kernel_rfl) (Nat.le_of_ble_eq_true rfl) rfl ?_ | refine Hp.wp_store 1 sh rfl rfl rfl rfl (by kernel_rfl) (Nat.le_of_ble_eq_true rfl) rfl ?_ | refine Hp.wp_store 2 sh rfl rfl rfl rfl (by kernel_rfl) (Nat.le_of_ble_eq_true rfl) rfl ?_ | refine Hp.wp_store 3 sh rfl rfl rfl rfl (by kernel_rfl) (Nat.le_of_ble_eq_true rfl) rfl ?_ | refine Hp.wp_store 4 sh rfl rfl rfl rfl (by kernel_rfl) (Nat.le_of_ble_eq_true rfl) rfl ?_ | refine Hp.wp_store 5 sh rfl rfl rfl rfl (by kernel_rfl) (Nat.le_of_ble_eq_true rfl) rfl ?_ | refine Hp.wp_store 6 sh rfl rfl rfl rfl (by kernel_rfl) (Nat.le_of_ble_eq_true rfl) rfl ?_); clear sh; (try clear F); go_simp; intro w1 sh; have F := sh.facts; (try simp only [Hp.Facts, Hp.CellsAt, Nat.reduceAdd, List.cons_append, List.nil_append] at F))
          | fail)
      go_ret2
      exact ⟨.slice s1 Tk.length c1, R, (by rw [HG.out, hkn]; rfl), sh.drop1, by rw [HG.out]; exact HR.out⟩

end Go.Proofs.Ytedcnoajadnhnaa