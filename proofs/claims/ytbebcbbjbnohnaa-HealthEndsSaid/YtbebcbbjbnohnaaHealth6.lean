/-
  The walks of package health and of its reference: All.
-/
import Derived.Test.YtbebcbbjbnohnaaHealth5
import Derived.Deep.LoopGhost
namespace Go.Proofs.Ytbebcbbjbnohnaa
open Go.RowKit
set_option linter.unusedVariables false
set_option linter.unusedSimpArgs false


theorem RdV_rob {W : World} {s : Option Addr} {vs : List Value} (h : Hp.RdV W s vs) : Hp.Rob (fun _ => False) W (fun W => Hp.RdV W s vs) := fun W' ho => h.below ho (fun _ _ h => h)
def nums (zs : List Int) : List Value := zs.map (Value.int .i64)
theorem nums_length (zs : List Int) : (nums zs).length = zs.length := by simp [nums]
theorem nums_get {zs : List Int} {i : Nat} (h : i < zs.length) : (nums zs)[i]? = some (.int .i64 zs[i]) := by simp [nums, h]

namespace HeaP
def all (fa ag : Int) : Nat → HT × List Int
  | 0 => ((0, 0, false), [])
  | k + 1 => if (tell fa ag (all fa ag k).1).2.2 = 0 then ((tell fa ag (all fa ag k).1).1, (all fa ag k).2 ++ [(tell fa ag (all fa ag k).1).2.1]) else all fa ag k
theorem tell_range {fa ag f a : Int} {d : Bool} (h : (tell fa ag (f, a, d)).2.2 = 0) : 0 ≤ (tell fa ag (f, a, d)).1.1 ∧ (tell fa ag (f, a, d)).1.1 ≤ 4294967295 ∧ 0 ≤ (tell fa ag (f, a, d)).1.2.1 ∧ (tell fa ag (f, a, d)).1.2.1 ≤ 101 := by
  have hup : ∀ x : Int, 0 ≤ x → 0 ≤ up x ∧ up x ≤ 4294967295 := fun x hx => by unfold up; split <;> omega
  rcases tell_cases fa ag f a d with ⟨hk, ht⟩ | ⟨hk, hd, ht⟩ | ⟨hk, hd, h1, ht⟩ | ⟨hk, hd, h1, h2, ht⟩ | ⟨hk, hd, h1, h2, ht⟩ | ⟨hk, hd, h1, ht⟩ <;> rw [ht] at h ⊢ <;> dsimp only at h ⊢
  · omega
  · omega
  all_goals
    obtain ⟨k1, k2, k3, k4, k5, k6, k7, k8, k9⟩ := HeaP.ok_iff.1 hk
    have := hup f k5
    omega
theorem all_range (fa ag : Int) (k : Nat) : 0 ≤ (all fa ag k).1.1 ∧ (all fa ag k).1.1 ≤ 4294967295 ∧ 0 ≤ (all fa ag k).1.2.1 ∧ (all fa ag k).1.2.1 ≤ 101 := by
  induction k with
  | zero => simp [all]
  | succ k ih =>
    rw [all]
    split
    · rename_i h
      exact tell_range h
    · exact ih
theorem all_stop {fa ag : Int} {k : Nat} (h : (tell fa ag (all fa ag k).1).2.2 ≠ 0) : ∀ n, k ≤ n → all fa ag n = all fa ag k := by
  intro n hn
  induction n with
  | zero => obtain rfl : k = 0 := by omega
            rfl
  | succ n ih =>
    by_cases he : k = n + 1
    · rw [he]
    · have i := ih (by omega)
      rw [all, i, if_neg h]
theorem all_len (fa ag : Int) (k : Nat) : (all fa ag k).2.length ≤ k := by
  induction k with
  | zero => simp [all]
  | succ k ih =>
    rw [all]
    split
    · simp; exact ih
    · omega
theorem all_step {fa ag : Int} {k : Nat} {f a : Int} {d : Bool} {l : List Int} {h' : HT} {n : Int} (hx : all fa ag k = ((f, a, d), l)) (ht : tell fa ag (f, a, d) = (h', n, 0)) : all fa ag (k + 1) = (h', l ++ [n]) := by
  rw [all, hx]; simp [ht]
theorem all_end {fa ag : Int} {k N : Nat} {f a : Int} {d : Bool} {l : List Int} {h' : HT} {n e : Int} (hx : all fa ag k = ((f, a, d), l)) (ht : tell fa ag (f, a, d) = (h', n, e)) (he : e ≠ 0) (hk : k ≤ N) : all fa ag N = ((f, a, d), l) := by
  rw [all_stop (k := k) (by rw [hx]; simp [ht, he]) N hk, hx]
def AllP (x : HT × List Int) (w : World) (e : Ending) (w' : World) : Prop := ∃ s c, e = .returned (.tuple #[hv x.1, .slice s x.2.length c]) ∧ (∀ p, s = some p → w.heap.size ≤ p.block) ∧ Hp.RdV w' s (nums x.2) ∧ Below w.heap.size w w'
theorem AllP.mk {x : HT × List Int} {f a : Int} {d : Bool} {l : List Int} {s : Option Addr} {n c : Nat} {w w' : World} (hx : x = ((f, a, d), l)) (hn : n = l.length) (hnew : ∀ p, s = some p → w.heap.size ≤ p.block) (hr : Hp.RdV w' s (nums l)) (hb : Below w.heap.size w w') : AllP x w (.returned (.tuple #[.agg #[.int .i64 f, .int .i64 a, .bool d], .slice s n c])) w' := by
  subst hx hn
  exact ⟨s, c, rfl, hnew, hr, hb⟩
theorem row_new {w w1 : World} {H R : List Hp.Blk} {D : World → Prop} (sh : Hp.Sh w w1 (R ++ H) D) {e : TypeId} {size : Nat} {s : Option Addr} {n c : Nat} {xs : List Value} (hr : Hp.RowIs e size (.slice s n c) n xs R) : ∀ p, s = some p → w.heap.size ≤ p.block := by
  rcases hr.2 with ⟨hv, rfl, rfl⟩ | ⟨g, cc, cur, hv, rfl, h1, h2, h3, h4⟩
  · simp only [Value.slice.injEq] at hv
    obtain ⟨rfl, -, -⟩ := hv
    intro p hp; cases hp
  · simp only [Value.slice.injEq] at hv
    obtain ⟨rfl, -, -⟩ := hv
    intro p hp
    obtain rfl := Option.some.inj hp
    exact sh.ge (g, cur, e) (by simp)
theorem gain {w0 w w' : World} {H : List Hp.Blk} {D : World → Prop} (sh : Hp.Sh w0 w H D) (hb : Below w.heap.size w w') {s : Option Addr} {vs : List Value} (hn : ∀ p, s = some p → w.heap.size ≤ p.block) (hr : Hp.RdV w' s vs) : Hp.Sh w0 w' H (fun W => Hp.RdV W s vs ∧ D W) :=
  (sh.call hb).add (fun W' ho => hr.below ho (fun p hp hi => by have := sh.in_lt _ hi; have := hn p hp; omega))
def AllS (x : HT × List Int) (w0 : World) (H : List Hp.Blk) (D : World → Prop) (e : Ending) (w' : World) : Prop := ∃ s c, e = .returned (.tuple #[.agg #[.int .i64 x.1.1, .int .i64 x.1.2.1, .bool x.1.2.2], .slice s x.2.length c]) ∧ Hp.Sh w0 w' H (fun W => Hp.RdV W s (nums x.2) ∧ D W)
theorem AllP.sh {x : HT × List Int} {w0 w w' : World} {e : Ending} {H : List Hp.Blk} {D : World → Prop} (sh : Hp.Sh w0 w H D) (h : AllP x w e w') : AllS x w0 H D e w' := by
  obtain ⟨s, c, he, hn, hr, hb⟩ := h
  exact ⟨s, c, he, gain sh hb hn hr⟩
end HeaP

set_option maxHeartbeats 4000000 in
set_option maxRecDepth 100000 in
theorem hall (p0 p1 p2 : Int) (cs : Option Addr) (cn cc : Nat) (fa ag : Int) (n : Int) (w : World) (hfa : -9223372036854775808 ≤ fa ∧ fa ≤ 9223372036854775807) (hag : -9223372036854775808 ≤ ag ∧ ag ≤ 9223372036854775807) (hn : -9223372036854775808 ≤ n ∧ n ≤ 9223372036854775807) :
    Calls Try.prog 12 #[.agg #[.int .i64 p0, .int .i64 p1, .int .i64 p2, .slice cs cn cc, .int .i64 fa, .int .i64 ag], .int .i64 n] w fun e w' => HeaP.AllP (HeaP.all fa ag (min n 1000).toNat) w e w' := by
  have sh : Hp.Sh w w [] (fun _ => True) := Hp.Sh.start (fun _ _ => trivial)
  by_cases hbig : 1000 < n
  · rw [show (min n 1000).toNat = 1000 by omega]
    generalize hN : 1000 = N
    go_enter Try.func12, Try.ntmps12
    have tok_bp : True := trivial
    have tok_br : True := trivial
    have tok_bh : True := trivial
    go_wp2_with (first
        | ((have tok := tok_bp); clear tok tok_bp; (first | (with_reducible refine Hp.wpl_box sh ?_ ?_) | (with_reducible refine Hp.wpl_alloc Try.z_health sh ?_ ?_) | (with_reducible refine Hp.wpl_alloc Try.z_part sh ?_ ?_)); exact rfl; clear sh; (try clear F); go_simp; intro bp w1 sh; have F := sh.facts; (try simp only [Hp.Facts, Hp.CellsAt, Nat.reduceAdd, List.cons_append, List.nil_append] at F))
        | ((have tok := tok_br); clear tok tok_br; (first | (with_reducible refine Hp.wpl_box sh ?_ ?_) | (with_reducible refine Hp.wpl_alloc Try.z_health sh ?_ ?_) | (with_reducible refine Hp.wpl_alloc Try.z_part sh ?_ ?_)); exact rfl; clear sh; (try clear F); go_simp; intro br w1 sh; have F := sh.facts; (try simp only [Hp.Facts, Hp.CellsAt, Nat.reduceAdd, List.cons_append, List.nil_append] at F))
        | ((have tok := tok_bh); clear tok tok_bh; (first | (with_reducible refine Hp.wpl_box sh ?_ ?_) | (with_reducible refine Hp.wpl_alloc Try.z_health sh ?_ ?_) | (with_reducible refine Hp.wpl_alloc Try.z_part sh ?_ ?_)); exact rfl; clear sh; (try clear F); go_simp; intro bh w1 sh; have F := sh.facts; (try simp only [Hp.Facts, Hp.CellsAt, Nat.reduceAdd, List.cons_append, List.nil_append] at F))
        | ((with_reducible refine Hp.wpl_box sh ?_ ?_); exact rfl; clear sh; (try clear F); go_simp; intro b w1 sh; have F := sh.facts; (try simp only [Hp.Facts, Hp.CellsAt, Nat.reduceAdd, List.cons_append, List.nil_append] at F))
        | ((with_reducible refine Hp.wpl_alloc Try.z_health sh ?_ ?_); exact rfl; clear sh; (try clear F); go_simp; intro b w1 sh; have F := sh.facts; (try simp only [Hp.Facts, Hp.CellsAt, Nat.reduceAdd, List.cons_append, List.nil_append] at F))
        | ((with_reducible refine Hp.wpl_alloc Try.z_part sh ?_ ?_); exact rfl; clear sh; (try clear F); go_simp; intro b w1 sh; have F := sh.facts; (try simp only [Hp.Facts, Hp.CellsAt, Nat.reduceAdd, List.cons_append, List.nil_append] at F))
        | ((with_reducible refine Hp.atl_store ?_ ?_); exact rfl; (first | refine Hp.wp_store 0 sh rfl rfl rfl rfl (by kernel_rfl) (Nat.le_of_ble_eq_true rfl) rfl ?_ | refine Hp.wp_store 1 sh rfl rfl rfl rfl (by kernel_rfl) (Nat.le_of_ble_eq_true rfl) rfl ?_ | refine Hp.wp_store 2 sh rfl rfl rfl rfl (by kernel_rfl) (Nat.le_of_ble_eq_true rfl) rfl ?_ | refine Hp.wp_store 3 sh rfl rfl rfl rfl (by kernel_rfl) (Nat.le_of_ble_eq_true rfl) rfl ?_ | refine Hp.wp_store 4 sh rfl rfl rfl rfl (by kernel_rfl) (Nat.le_of_ble_eq_true rfl) rfl ?_ | refine Hp.wp_store 5 sh rfl rfl rfl rfl (by kernel_rfl) (Nat.le_of_ble_eq_true rfl) rfl ?_ | refine Hp.wp_store 6 sh rfl rfl rfl rfl (by kernel_rfl) (Nat.le_of_ble_eq_true rfl) rfl ?_); clear sh; (try clear F); go_simp; intro w1 sh; have F := sh.facts; (try simp only [Hp.Facts, Hp.CellsAt, Nat.reduceAdd, List.cons_append, List.nil_append] at F))
        | fail)
    go_loopw [7, 13] (fun v i wr => ∃ (k : Nat) (f a : Int) (d : Bool) (l : List Int) (R : List Hp.Blk) (s : Option Addr) (m c : Nat), v = .slice s m c ∧ i = .int .i64 k ∧ k ≤ N ∧ m ≤ k ∧ Hid (HeaP.all fa ag k = ((f, a, d), l) ∧ m = l.length ∧ Hp.RowIs 3 1 (.slice s m c) m (nums l) R) ∧
        Hp.Sh w wr ([(bh, #[.int .i64 f, .int .i64 a, .bool d], 26), (br, #[.int .i64 0, .int .i64 0, .bool false], 26), (bp, #[.int .i64 p0, .int .i64 p1, .int .i64 p2, .slice cs cn cc, .int .i64 fa, .int .i64 ag], 24)] ++ R) (fun _ => True)) (fun _ i _ => N - (intOf i).toNat)
    case atStart => exact ⟨0, 0, 0, false, [], [], none, 0, 0, rfl, rfl, by omega, by omega, ⟨rfl, rfl, Hp.RowIs.nil _ _⟩, sh⟩
    case round =>
      clear sh F
      obtain ⟨k, f, a, d, l, R, s, m, c, rfl, rfl, hk, hmk, HH, sh⟩ := hrel
      have F := sh.facts; (try simp only [Hp.Facts, Hp.CellsAt, Nat.reduceAdd, List.cons_append, List.nil_append] at F)
      by_cases hlt : k < N
      · have g1 : (k : Int) < 1000 := by omega
        have hra := HeaP.all_range fa ag k
        rw [HH.out.1] at hra
        dsimp only at hra
        have HT := Lib.hid (fun W => htell p0 p1 p2 cs cn cc fa ag f a d W hfa hag (by omega) (by omega))
        clear hra
        generalize hr : HeaP.tell fa ag (f, a, d) = r at HT
        obtain ⟨⟨f', a', d'⟩, n', e'⟩ := r
        have HR := Lib.hid hr
        clear hr
        simp only [HeaP.tv] at HT
        by_cases he : e' = 0
        · subst he
          go_wp2_with (first
              | ((with_reducible refine Hp.wpl_box sh ?_ ?_); exact rfl; clear sh; (try clear F); go_simp; intro b w1 sh; have F := sh.facts; (try simp only [Hp.Facts, Hp.CellsAt, Nat.reduceAdd, List.cons_append, List.nil_append] at F))
              | ((with_reducible refine Hp.wpl_alloc Try.z_health sh ?_ ?_); exact rfl; clear sh; (try clear F); go_simp; intro b w1 sh; have F := sh.facts; (try simp only [Hp.Facts, Hp.CellsAt, Nat.reduceAdd, List.cons_append, List.nil_append] at F))
              | ((with_reducible refine Hp.wpl_alloc Try.z_part sh ?_ ?_); exact rfl; clear sh; (try clear F); go_simp; intro b w1 sh; have F := sh.facts; (try simp only [Hp.Facts, Hp.CellsAt, Nat.reduceAdd, List.cons_append, List.nil_append] at F))
              | ((with_reducible refine Hp.atl_store ?_ ?_); exact rfl; (first | refine Hp.wp_store 0 sh rfl rfl rfl rfl (by kernel_rfl) (Nat.le_of_ble_eq_true rfl) rfl ?_ | refine Hp.wp_store 1 sh rfl rfl rfl rfl (by kernel_rfl) (Nat.le_of_ble_eq_true rfl) rfl ?_ | refine Hp.wp_store 2 sh rfl rfl rfl rfl (by kernel_rfl) (Nat.le_of_ble_eq_true rfl) rfl ?_ | refine Hp.wp_store 3 sh rfl rfl rfl rfl (by kernel_rfl) (Nat.le_of_ble_eq_true rfl) rfl ?_ | refine Hp.wp_store 4 sh rfl rfl rfl rfl (by kernel_rfl) (Nat.le_of_ble_eq_true rfl) rfl ?_ | refine Hp.wp_store 5 sh rfl rfl rfl rfl (by kernel_rfl) (Nat.le_of_ble_eq_true rfl) rfl ?_ | refine Hp.wp_store 6 sh rfl rfl rfl rfl (by kernel_rfl) (Nat.le_of_ble_eq_true rfl) rfl ?_); clear sh; (try clear F); go_simp; intro w1 sh; have F := sh.facts; (try simp only [Hp.Facts, Hp.CellsAt, Nat.reduceAdd, List.cons_append, List.nil_append] at F))
              | fail)
          go_fit (HT.out _)
          rintro e w1 ⟨rfl, hb⟩
          replace sh := sh.call hb; clear hb; (try clear F); have F := sh.facts; (try simp only [Hp.Facts, Hp.CellsAt, Nat.reduceAdd, List.cons_append, List.nil_append] at F)
          have tok_b8 : True := trivial
          go_wp2_with (first
              | ((with_reducible refine Hp.atl_lit ?_ ?_); exact rfl; (refine Hp.wp_lit 1 [Value.int .i64 n'] Try.i_int Try.underlying32 sh rfl rfl (by omega) rfl ?_); clear sh; (try clear F); intro b w1 sh; replace sh := sh.freeze1 (vs := [Value.int .i64 n']) (fun i v h => by simpa using h); have F := sh.facts; (try simp only [Hp.Facts, Hp.CellsAt, Nat.reduceAdd, List.cons_append, List.nil_append] at F); go_simp)
              | ((with_reducible refine Hp.atl_append 25 ?_ ?_); exact rfl; go_loud (refine Hp.wp_append (R := R) (H := [(b8, _, _), (bh, _, _), (br, _, _), (bp, _, _)]) (news := [Value.int .i64 n']) Try.i_int Try.underlying32 (by decide) rfl (by decide) (sh.front (A := [_, _, _, _]) (R := R)) HH.out.2.2 rfl rfl rfl sh.data.1 (fun h => by cases h) (Hp.ones_mem rfl) (by omega) ?_); clear sh F; intro v1 R1 w1 sh hr; have HR1 := Lib.hid hr; clear hr; go_simp)
              | ((have tok := tok_b8); clear tok tok_b8; (first | (with_reducible refine Hp.wpl_box sh ?_ ?_) | (with_reducible refine Hp.wpl_alloc Try.z_health sh ?_ ?_) | (with_reducible refine Hp.wpl_alloc Try.z_part sh ?_ ?_)); exact rfl; clear sh; (try clear F); go_simp; intro b8 w1 sh; have F := sh.facts; (try simp only [Hp.Facts, Hp.CellsAt, Nat.reduceAdd, List.cons_append, List.nil_append] at F))
              | ((with_reducible refine Hp.wpl_box sh ?_ ?_); exact rfl; clear sh; (try clear F); go_simp; intro b w1 sh; have F := sh.facts; (try simp only [Hp.Facts, Hp.CellsAt, Nat.reduceAdd, List.cons_append, List.nil_append] at F))
              | ((with_reducible refine Hp.wpl_alloc Try.z_health sh ?_ ?_); exact rfl; clear sh; (try clear F); go_simp; intro b w1 sh; have F := sh.facts; (try simp only [Hp.Facts, Hp.CellsAt, Nat.reduceAdd, List.cons_append, List.nil_append] at F))
              | ((with_reducible refine Hp.wpl_alloc Try.z_part sh ?_ ?_); exact rfl; clear sh; (try clear F); go_simp; intro b w1 sh; have F := sh.facts; (try simp only [Hp.Facts, Hp.CellsAt, Nat.reduceAdd, List.cons_append, List.nil_append] at F))
              | ((with_reducible refine Hp.atl_store ?_ ?_); exact rfl; (first | refine Hp.wp_store 0 sh rfl rfl rfl rfl (by kernel_rfl) (Nat.le_of_ble_eq_true rfl) rfl ?_ | refine Hp.wp_store 1 sh rfl rfl rfl rfl (by kernel_rfl) (Nat.le_of_ble_eq_true rfl) rfl ?_ | refine Hp.wp_store 2 sh rfl rfl rfl rfl (by kernel_rfl) (Nat.le_of_ble_eq_true rfl) rfl ?_ | refine Hp.wp_store 3 sh rfl rfl rfl rfl (by kernel_rfl) (Nat.le_of_ble_eq_true rfl) rfl ?_ | refine Hp.wp_store 4 sh rfl rfl rfl rfl (by kernel_rfl) (Nat.le_of_ble_eq_true rfl) rfl ?_ | refine Hp.wp_store 5 sh rfl rfl rfl rfl (by kernel_rfl) (Nat.le_of_ble_eq_true rfl) rfl ?_ | refine Hp.wp_store 6 sh rfl rfl rfl rfl (by kernel_rfl) (Nat.le_of_ble_eq_true rfl) rfl ?_); clear sh; (try clear F); go_simp; intro w1 sh; have F := sh.facts; (try simp only [Hp.Facts, Hp.CellsAt, Nat.reduceAdd, List.cons_append, List.nil_append] at F))
              | fail)
          obtain ⟨s7, c7, rfl, -, -, -⟩ := HR1.out.slice
          go_roundw
          case rel => exact ⟨k + 1, f', a', d', l ++ [n'], R1, s7, m + 1, c7, rfl, by go_num, by omega, by omega, ⟨HeaP.all_step HH.out.1 HR.out, by simp [HH.out.2.1], by have h := HR1.out; simpa [nums] using h⟩, ((sh.sub (List.Sublist.append_left (List.sublist_cons_self _ _) _)).front).imp fun W h => trivial⟩
          case measure => simp [intOf]; omega
        · have heb : (e' != 0) = true := by simp [he]
          go_wp2_with (first
              | ((with_reducible refine Hp.wpl_box sh ?_ ?_); exact rfl; clear sh; (try clear F); go_simp; intro b w1 sh; have F := sh.facts; (try simp only [Hp.Facts, Hp.CellsAt, Nat.reduceAdd, List.cons_append, List.nil_append] at F))
              | ((with_reducible refine Hp.wpl_alloc Try.z_health sh ?_ ?_); exact rfl; clear sh; (try clear F); go_simp; intro b w1 sh; have F := sh.facts; (try simp only [Hp.Facts, Hp.CellsAt, Nat.reduceAdd, List.cons_append, List.nil_append] at F))
              | ((with_reducible refine Hp.wpl_alloc Try.z_part sh ?_ ?_); exact rfl; clear sh; (try clear F); go_simp; intro b w1 sh; have F := sh.facts; (try simp only [Hp.Facts, Hp.CellsAt, Nat.reduceAdd, List.cons_append, List.nil_append] at F))
              | ((with_reducible refine Hp.atl_store ?_ ?_); exact rfl; (first | refine Hp.wp_store 0 sh rfl rfl rfl rfl (by kernel_rfl) (Nat.le_of_ble_eq_true rfl) rfl ?_ | refine Hp.wp_store 1 sh rfl rfl rfl rfl (by kernel_rfl) (Nat.le_of_ble_eq_true rfl) rfl ?_ | refine Hp.wp_store 2 sh rfl rfl rfl rfl (by kernel_rfl) (Nat.le_of_ble_eq_true rfl) rfl ?_ | refine Hp.wp_store 3 sh rfl rfl rfl rfl (by kernel_rfl) (Nat.le_of_ble_eq_true rfl) rfl ?_ | refine Hp.wp_store 4 sh rfl rfl rfl rfl (by kernel_rfl) (Nat.le_of_ble_eq_true rfl) rfl ?_ | refine Hp.wp_store 5 sh rfl rfl rfl rfl (by kernel_rfl) (Nat.le_of_ble_eq_true rfl) rfl ?_ | refine Hp.wp_store 6 sh rfl rfl rfl rfl (by kernel_rfl) (Nat.le_of_ble_eq_true rfl) rfl ?_); clear sh; (try clear F); go_simp; intro w1 sh; have F := sh.facts; (try simp only [Hp.Facts, Hp.CellsAt, Nat.reduceAdd, List.cons_append, List.nil_append] at F))
              | fail)
          go_fit (HT.out _)
          rintro e w1 ⟨rfl, hb⟩
          replace sh := sh.call hb; clear hb; (try clear F); have F := sh.facts; (try simp only [Hp.Facts, Hp.CellsAt, Nat.reduceAdd, List.cons_append, List.nil_append] at F)
          go_wp2_with (first
              | ((with_reducible refine Hp.wpl_box sh ?_ ?_); exact rfl; clear sh; (try clear F); go_simp; intro b w1 sh; have F := sh.facts; (try simp only [Hp.Facts, Hp.CellsAt, Nat.reduceAdd, List.cons_append, List.nil_append] at F))
              | ((with_reducible refine Hp.wpl_alloc Try.z_health sh ?_ ?_); exact rfl; clear sh; (try clear F); go_simp; intro b w1 sh; have F := sh.facts; (try simp only [Hp.Facts, Hp.CellsAt, Nat.reduceAdd, List.cons_append, List.nil_append] at F))
              | ((with_reducible refine Hp.wpl_alloc Try.z_part sh ?_ ?_); exact rfl; clear sh; (try clear F); go_simp; intro b w1 sh; have F := sh.facts; (try simp only [Hp.Facts, Hp.CellsAt, Nat.reduceAdd, List.cons_append, List.nil_append] at F))
              | ((with_reducible refine Hp.atl_store ?_ ?_); exact rfl; (first | refine Hp.wp_store 0 sh rfl rfl rfl rfl (by kernel_rfl) (Nat.le_of_ble_eq_true rfl) rfl ?_ | refine Hp.wp_store 1 sh rfl rfl rfl rfl (by kernel_rfl) (Nat.le_of_ble_eq_true rfl) rfl ?_ | refine Hp.wp_store 2 sh rfl rfl rfl rfl (by kernel_rfl) (Nat.le_of_ble_eq_true rfl) rfl ?_ | refine Hp.wp_store 3 sh rfl rfl rfl rfl (by kernel_rfl) (Nat.le_of_ble_eq_true rfl) rfl ?_ | refine Hp.wp_store 4 sh rfl rfl rfl rfl (by kernel_rfl) (Nat.le_of_ble_eq_true rfl) rfl ?_ | refine Hp.wp_store 5 sh rfl rfl rfl rfl (by kernel_rfl) (Nat.le_of_ble_eq_true rfl) rfl ?_ | refine Hp.wp_store 6 sh rfl rfl rfl rfl (by kernel_rfl) (Nat.le_of_ble_eq_true rfl) rfl ?_); clear sh; (try clear F); go_simp; intro w1 sh; have F := sh.facts; (try simp only [Hp.Facts, Hp.CellsAt, Nat.reduceAdd, List.cons_append, List.nil_append] at F))
              | fail)
          exact bodyPost_ret (Hp.res_ct rfl rfl (sh.load 2 rfl (by kernel_rfl) (by kernel_rfl))) rfl (HeaP.AllP.mk (HeaP.all_end HH.out.1 HR.out he (by omega)) HH.out.2.1 (HeaP.row_new (sh.front (A := [_, _, _, _])) HH.out.2.2) ((sh.front (A := [_, _, _, _])).cells HH.out.2.2) sh.below)
      · obtain rfl : k = N := by omega
        have g1 : ¬ (k : Int) < 1000 := by omega
        go_wp2_with (first
            | ((with_reducible refine Hp.wpl_box sh ?_ ?_); exact rfl; clear sh; (try clear F); go_simp; intro b w1 sh; have F := sh.facts; (try simp only [Hp.Facts, Hp.CellsAt, Nat.reduceAdd, List.cons_append, List.nil_append] at F))
            | ((with_reducible refine Hp.wpl_alloc Try.z_health sh ?_ ?_); exact rfl; clear sh; (try clear F); go_simp; intro b w1 sh; have F := sh.facts; (try simp only [Hp.Facts, Hp.CellsAt, Nat.reduceAdd, List.cons_append, List.nil_append] at F))
            | ((with_reducible refine Hp.wpl_alloc Try.z_part sh ?_ ?_); exact rfl; clear sh; (try clear F); go_simp; intro b w1 sh; have F := sh.facts; (try simp only [Hp.Facts, Hp.CellsAt, Nat.reduceAdd, List.cons_append, List.nil_append] at F))
            | ((with_reducible refine Hp.atl_store ?_ ?_); exact rfl; (first | refine Hp.wp_store 0 sh rfl rfl rfl rfl (by kernel_rfl) (Nat.le_of_ble_eq_true rfl) rfl ?_ | refine Hp.wp_store 1 sh rfl rfl rfl rfl (by kernel_rfl) (Nat.le_of_ble_eq_true rfl) rfl ?_ | refine Hp.wp_store 2 sh rfl rfl rfl rfl (by kernel_rfl) (Nat.le_of_ble_eq_true rfl) rfl ?_ | refine Hp.wp_store 3 sh rfl rfl rfl rfl (by kernel_rfl) (Nat.le_of_ble_eq_true rfl) rfl ?_ | refine Hp.wp_store 4 sh rfl rfl rfl rfl (by kernel_rfl) (Nat.le_of_ble_eq_true rfl) rfl ?_ | refine Hp.wp_store 5 sh rfl rfl rfl rfl (by kernel_rfl) (Nat.le_of_ble_eq_true rfl) rfl ?_ | refine Hp.wp_store 6 sh rfl rfl rfl rfl (by kernel_rfl) (Nat.le_of_ble_eq_true rfl) rfl ?_); clear sh; (try clear F); go_simp; intro w1 sh; have F := sh.facts; (try simp only [Hp.Facts, Hp.CellsAt, Nat.reduceAdd, List.cons_append, List.nil_append] at F))
            | fail)
        exact bodyPost_ret (Hp.res_ct rfl rfl (sh.load 1 rfl (by kernel_rfl) (by kernel_rfl))) rfl (HeaP.AllP.mk HH.out.1 HH.out.2.1 (HeaP.row_new (sh.front (A := [_, _, _])) HH.out.2.2) ((sh.front (A := [_, _, _])).cells HH.out.2.2) sh.below)
  · rw [show (min n 1000).toNat = n.toNat by omega]
    generalize hN : n.toNat = N
    have hNI : (0 ≤ n ∧ (N : Int) = n) ∨ (n < 0 ∧ N = 0) := by omega
    clear hN
    go_enter Try.func12, Try.ntmps12
    have tok_bp : True := trivial
    have tok_br : True := trivial
    have tok_bh : True := trivial
    go_wp2_with (first
        | ((have tok := tok_bp); clear tok tok_bp; (first | (with_reducible refine Hp.wpl_box sh ?_ ?_) | (with_reducible refine Hp.wpl_alloc Try.z_health sh ?_ ?_) | (with_reducible refine Hp.wpl_alloc Try.z_part sh ?_ ?_)); exact rfl; clear sh; (try clear F); go_simp; intro bp w1 sh; have F := sh.facts; (try simp only [Hp.Facts, Hp.CellsAt, Nat.reduceAdd, List.cons_append, List.nil_append] at F))
        | ((have tok := tok_br); clear tok tok_br; (first | (with_reducible refine Hp.wpl_box sh ?_ ?_) | (with_reducible refine Hp.wpl_alloc Try.z_health sh ?_ ?_) | (with_reducible refine Hp.wpl_alloc Try.z_part sh ?_ ?_)); exact rfl; clear sh; (try clear F); go_simp; intro br w1 sh; have F := sh.facts; (try simp only [Hp.Facts, Hp.CellsAt, Nat.reduceAdd, List.cons_append, List.nil_append] at F))
        | ((have tok := tok_bh); clear tok tok_bh; (first | (with_reducible refine Hp.wpl_box sh ?_ ?_) | (with_reducible refine Hp.wpl_alloc Try.z_health sh ?_ ?_) | (with_reducible refine Hp.wpl_alloc Try.z_part sh ?_ ?_)); exact rfl; clear sh; (try clear F); go_simp; intro bh w1 sh; have F := sh.facts; (try simp only [Hp.Facts, Hp.CellsAt, Nat.reduceAdd, List.cons_append, List.nil_append] at F))
        | ((with_reducible refine Hp.wpl_box sh ?_ ?_); exact rfl; clear sh; (try clear F); go_simp; intro b w1 sh; have F := sh.facts; (try simp only [Hp.Facts, Hp.CellsAt, Nat.reduceAdd, List.cons_append, List.nil_append] at F))
        | ((with_reducible refine Hp.wpl_alloc Try.z_health sh ?_ ?_); exact rfl; clear sh; (try clear F); go_simp; intro b w1 sh; have F := sh.facts; (try simp only [Hp.Facts, Hp.CellsAt, Nat.reduceAdd, List.cons_append, List.nil_append] at F))
        | ((with_reducible refine Hp.wpl_alloc Try.z_part sh ?_ ?_); exact rfl; clear sh; (try clear F); go_simp; intro b w1 sh; have F := sh.facts; (try simp only [Hp.Facts, Hp.CellsAt, Nat.reduceAdd, List.cons_append, List.nil_append] at F))
        | ((with_reducible refine Hp.atl_store ?_ ?_); exact rfl; (first | refine Hp.wp_store 0 sh rfl rfl rfl rfl (by kernel_rfl) (Nat.le_of_ble_eq_true rfl) rfl ?_ | refine Hp.wp_store 1 sh rfl rfl rfl rfl (by kernel_rfl) (Nat.le_of_ble_eq_true rfl) rfl ?_ | refine Hp.wp_store 2 sh rfl rfl rfl rfl (by kernel_rfl) (Nat.le_of_ble_eq_true rfl) rfl ?_ | refine Hp.wp_store 3 sh rfl rfl rfl rfl (by kernel_rfl) (Nat.le_of_ble_eq_true rfl) rfl ?_ | refine Hp.wp_store 4 sh rfl rfl rfl rfl (by kernel_rfl) (Nat.le_of_ble_eq_true rfl) rfl ?_ | refine Hp.wp_store 5 sh rfl rfl rfl rfl (by kernel_rfl) (Nat.le_of_ble_eq_true rfl) rfl ?_ | refine Hp.wp_store 6 sh rfl rfl rfl rfl (by kernel_rfl) (Nat.le_of_ble_eq_true rfl) rfl ?_); clear sh; (try clear F); go_simp; intro w1 sh; have F := sh.facts; (try simp only [Hp.Facts, Hp.CellsAt, Nat.reduceAdd, List.cons_append, List.nil_append] at F))
        | fail)
    go_loopw [7, 13] (fun v i wr => ∃ (k : Nat) (f a : Int) (d : Bool) (l : List Int) (R : List Hp.Blk) (s : Option Addr) (m c : Nat), v = .slice s m c ∧ i = .int .i64 k ∧ k ≤ N ∧ m ≤ k ∧ Hid (HeaP.all fa ag k = ((f, a, d), l) ∧ m = l.length ∧ Hp.RowIs 3 1 (.slice s m c) m (nums l) R) ∧
        Hp.Sh w wr ([(bh, #[.int .i64 f, .int .i64 a, .bool d], 26), (br, #[.int .i64 0, .int .i64 0, .bool false], 26), (bp, #[.int .i64 p0, .int .i64 p1, .int .i64 p2, .slice cs cn cc, .int .i64 fa, .int .i64 ag], 24)] ++ R) (fun _ => True)) (fun _ i _ => N - (intOf i).toNat)
    case atStart => exact ⟨0, 0, 0, false, [], [], none, 0, 0, rfl, rfl, by omega, by omega, ⟨rfl, rfl, Hp.RowIs.nil _ _⟩, sh⟩
    case round =>
      clear sh F
      obtain ⟨k, f, a, d, l, R, s, m, c, rfl, rfl, hk, hmk, HH, sh⟩ := hrel
      have F := sh.facts; (try simp only [Hp.Facts, Hp.CellsAt, Nat.reduceAdd, List.cons_append, List.nil_append] at F)
      by_cases hlt : k < N
      · have g1 : (k : Int) < n := by omega
        have hra := HeaP.all_range fa ag k
        rw [HH.out.1] at hra
        dsimp only at hra
        have HT := Lib.hid (fun W => htell p0 p1 p2 cs cn cc fa ag f a d W hfa hag (by omega) (by omega))
        clear hra
        generalize hr : HeaP.tell fa ag (f, a, d) = r at HT
        obtain ⟨⟨f', a', d'⟩, n', e'⟩ := r
        have HR := Lib.hid hr
        clear hr
        simp only [HeaP.tv] at HT
        by_cases he : e' = 0
        · subst he
          go_wp2_with (first
              | ((with_reducible refine Hp.wpl_box sh ?_ ?_); exact rfl; clear sh; (try clear F); go_simp; intro b w1 sh; have F := sh.facts; (try simp only [Hp.Facts, Hp.CellsAt, Nat.reduceAdd, List.cons_append, List.nil_append] at F))
              | ((with_reducible refine Hp.wpl_alloc Try.z_health sh ?_ ?_); exact rfl; clear sh; (try clear F); go_simp; intro b w1 sh; have F := sh.facts; (try simp only [Hp.Facts, Hp.CellsAt, Nat.reduceAdd, List.cons_append, List.nil_append] at F))
              | ((with_reducible refine Hp.wpl_alloc Try.z_part sh ?_ ?_); exact rfl; clear sh; (try clear F); go_simp; intro b w1 sh; have F := sh.facts; (try simp only [Hp.Facts, Hp.CellsAt, Nat.reduceAdd, List.cons_append, List.nil_append] at F))
              | ((with_reducible refine Hp.atl_store ?_ ?_); exact rfl; (first | refine Hp.wp_store 0 sh rfl rfl rfl rfl (by kernel_rfl) (Nat.le_of_ble_eq_true rfl) rfl ?_ | refine Hp.wp_store 1 sh rfl rfl rfl rfl (by kernel_rfl) (Nat.le_of_ble_eq_true rfl) rfl ?_ | refine Hp.wp_store 2 sh rfl rfl rfl rfl (by kernel_rfl) (Nat.le_of_ble_eq_true rfl) rfl ?_ | refine Hp.wp_store 3 sh rfl rfl rfl rfl (by kernel_rfl) (Nat.le_of_ble_eq_true rfl) rfl ?_ | refine Hp.wp_store 4 sh rfl rfl rfl rfl (by kernel_rfl) (Nat.le_of_ble_eq_true rfl) rfl ?_ | refine Hp.wp_store 5 sh rfl rfl rfl rfl (by kernel_rfl) (Nat.le_of_ble_eq_true rfl) rfl ?_ | refine Hp.wp_store 6 sh rfl rfl rfl rfl (by kernel_rfl) (Nat.le_of_ble_eq_true rfl) rfl ?_); clear sh; (try clear F); go_simp; intro w1 sh; have F := sh.facts; (try simp only [Hp.Facts, Hp.CellsAt, Nat.reduceAdd, List.cons_append, List.nil_append] at F))
              | fail)
          go_fit (HT.out _)
          rintro e w1 ⟨rfl, hb⟩
          replace sh := sh.call hb; clear hb; (try clear F); have F := sh.facts; (try simp only [Hp.Facts, Hp.CellsAt, Nat.reduceAdd, List.cons_append, List.nil_append] at F)
          have tok_b8 : True := trivial
          go_wp2_with (first
              | ((with_reducible refine Hp.atl_lit ?_ ?_); exact rfl; (refine Hp.wp_lit 1 [Value.int .i64 n'] Try.i_int Try.underlying32 sh rfl rfl (by omega) rfl ?_); clear sh; (try clear F); intro b w1 sh; replace sh := sh.freeze1 (vs := [Value.int .i64 n']) (fun i v h => by simpa using h); have F := sh.facts; (try simp only [Hp.Facts, Hp.CellsAt, Nat.reduceAdd, List.cons_append, List.nil_append] at F); go_simp)
              | ((with_reducible refine Hp.atl_append 25 ?_ ?_); exact rfl; go_loud (refine Hp.wp_append (R := R) (H := [(b8, _, _), (bh, _, _), (br, _, _), (bp, _, _)]) (news := [Value.int .i64 n']) Try.i_int Try.underlying32 (by decide) rfl (by decide) (sh.front (A := [_, _, _, _]) (R := R)) HH.out.2.2 rfl rfl rfl sh.data.1 (fun h => by cases h) (Hp.ones_mem rfl) (by omega) ?_); clear sh F; intro v1 R1 w1 sh hr; have HR1 := Lib.hid hr; clear hr; go_simp)
              | ((have tok := tok_b8); clear tok tok_b8; (first | (with_reducible refine Hp.wpl_box sh ?_ ?_) | (with_reducible refine Hp.wpl_alloc Try.z_health sh ?_ ?_) | (with_reducible refine Hp.wpl_alloc Try.z_part sh ?_ ?_)); exact rfl; clear sh; (try clear F); go_simp; intro b8 w1 sh; have F := sh.facts; (try simp only [Hp.Facts, Hp.CellsAt, Nat.reduceAdd, List.cons_append, List.nil_append] at F))
              | ((with_reducible refine Hp.wpl_box sh ?_ ?_); exact rfl; clear sh; (try clear F); go_simp; intro b w1 sh; have F := sh.facts; (try simp only [Hp.Facts, Hp.CellsAt, Nat.reduceAdd, List.cons_append, List.nil_append] at F))
              | ((with_reducible refine Hp.wpl_alloc Try.z_health sh ?_ ?_); exact rfl; clear sh; (try clear F); go_simp; intro b w1 sh; have F := sh.facts; (try simp only [Hp.Facts, Hp.CellsAt, Nat.reduceAdd, List.cons_append, List.nil_append] at F))
              | ((with_reducible refine Hp.wpl_alloc Try.z_part sh ?_ ?_); exact rfl; clear sh; (try clear F); go_simp; intro b w1 sh; have F := sh.facts; (try simp only [Hp.Facts, Hp.CellsAt, Nat.reduceAdd, List.cons_append, List.nil_append] at F))
              | ((with_reducible refine Hp.atl_store ?_ ?_); exact rfl; (first | refine Hp.wp_store 0 sh rfl rfl rfl rfl (by kernel_rfl) (Nat.le_of_ble_eq_true rfl) rfl ?_ | refine Hp.wp_store 1 sh rfl rfl rfl rfl (by kernel_rfl) (Nat.le_of_ble_eq_true rfl) rfl ?_ | refine Hp.wp_store 2 sh rfl rfl rfl rfl (by kernel_rfl) (Nat.le_of_ble_eq_true rfl) rfl ?_ | refine Hp.wp_store 3 sh rfl rfl rfl rfl (by kernel_rfl) (Nat.le_of_ble_eq_true rfl) rfl ?_ | refine Hp.wp_store 4 sh rfl rfl rfl rfl (by kernel_rfl) (Nat.le_of_ble_eq_true rfl) rfl ?_ | refine Hp.wp_store 5 sh rfl rfl rfl rfl (by kernel_rfl) (Nat.le_of_ble_eq_true rfl) rfl ?_ | refine Hp.wp_store 6 sh rfl rfl rfl rfl (by kernel_rfl) (Nat.le_of_ble_eq_true rfl) rfl ?_); clear sh; (try clear F); go_simp; intro w1 sh; have F := sh.facts; (try simp only [Hp.Facts, Hp.CellsAt, Nat.reduceAdd, List.cons_append, List.nil_append] at F))
              | fail)
          obtain ⟨s7, c7, rfl, -, -, -⟩ := HR1.out.slice
          go_roundw
          case rel => exact ⟨k + 1, f', a', d', l ++ [n'], R1, s7, m + 1, c7, rfl, by go_num, by omega, by omega, ⟨HeaP.all_step HH.out.1 HR.out, by simp [HH.out.2.1], by have h := HR1.out; simpa [nums] using h⟩, ((sh.sub (List.Sublist.append_left (List.sublist_cons_self _ _) _)).front).imp fun W h => trivial⟩
          case measure => simp [intOf]; omega
        · have heb : (e' != 0) = true := by simp [he]
          go_wp2_with (first
              | ((with_reducible refine Hp.wpl_box sh ?_ ?_); exact rfl; clear sh; (try clear F); go_simp; intro b w1 sh; have F := sh.facts; (try simp only [Hp.Facts, Hp.CellsAt, Nat.reduceAdd, List.cons_append, List.nil_append] at F))
              | ((with_reducible refine Hp.wpl_alloc Try.z_health sh ?_ ?_); exact rfl; clear sh; (try clear F); go_simp; intro b w1 sh; have F := sh.facts; (try simp only [Hp.Facts, Hp.CellsAt, Nat.reduceAdd, List.cons_append, List.nil_append] at F))
              | ((with_reducible refine Hp.wpl_alloc Try.z_part sh ?_ ?_); exact rfl; clear sh; (try clear F); go_simp; intro b w1 sh; have F := sh.facts; (try simp only [Hp.Facts, Hp.CellsAt, Nat.reduceAdd, List.cons_append, List.nil_append] at F))
              | ((with_reducible refine Hp.atl_store ?_ ?_); exact rfl; (first | refine Hp.wp_store 0 sh rfl rfl rfl rfl (by kernel_rfl) (Nat.le_of_ble_eq_true rfl) rfl ?_ | refine Hp.wp_store 1 sh rfl rfl rfl rfl (by kernel_rfl) (Nat.le_of_ble_eq_true rfl) rfl ?_ | refine Hp.wp_store 2 sh rfl rfl rfl rfl (by kernel_rfl) (Nat.le_of_ble_eq_true rfl) rfl ?_ | refine Hp.wp_store 3 sh rfl rfl rfl rfl (by kernel_rfl) (Nat.le_of_ble_eq_true rfl) rfl ?_ | refine Hp.wp_store 4 sh rfl rfl rfl rfl (by kernel_rfl) (Nat.le_of_ble_eq_true rfl) rfl ?_ | refine Hp.wp_store 5 sh rfl rfl rfl rfl (by kernel_rfl) (Nat.le_of_ble_eq_true rfl) rfl ?_ | refine Hp.wp_store 6 sh rfl rfl rfl rfl (by kernel_rfl) (Nat.le_of_ble_eq_true rfl) rfl ?_); clear sh; (try clear F); go_simp; intro w1 sh; have F := sh.facts; (try simp only [Hp.Facts, Hp.CellsAt, Nat.reduceAdd, List.cons_append, List.nil_append] at F))
              | fail)
          go_fit (HT.out _)
          rintro e w1 ⟨rfl, hb⟩
          replace sh := sh.call hb; clear hb; (try clear F); have F := sh.facts; (try simp only [Hp.Facts, Hp.CellsAt, Nat.reduceAdd, List.cons_append, List.nil_append] at F)
          go_wp2_with (first
              | ((with_reducible refine Hp.wpl_box sh ?_ ?_); exact rfl; clear sh; (try clear F); go_simp; intro b w1 sh; have F := sh.facts; (try simp only [Hp.Facts, Hp.CellsAt, Nat.reduceAdd, List.cons_append, List.nil_append] at F))
              | ((with_reducible refine Hp.wpl_alloc Try.z_health sh ?_ ?_); exact rfl; clear sh; (try clear F); go_simp; intro b w1 sh; have F := sh.facts; (try simp only [Hp.Facts, Hp.CellsAt, Nat.reduceAdd, List.cons_append, List.nil_append] at F))
              | ((with_reducible refine Hp.wpl_alloc Try.z_part sh ?_ ?_); exact rfl; clear sh; (try clear F); go_simp; intro b w1 sh; have F := sh.facts; (try simp only [Hp.Facts, Hp.CellsAt, Nat.reduceAdd, List.cons_append, List.nil_append] at F))
              | ((with_reducible refine Hp.atl_store ?_ ?_); exact rfl; (first | refine Hp.wp_store 0 sh rfl rfl rfl rfl (by kernel_rfl) (Nat.le_of_ble_eq_true rfl) rfl ?_ | refine Hp.wp_store 1 sh rfl rfl rfl rfl (by kernel_rfl) (Nat.le_of_ble_eq_true rfl) rfl ?_ | refine Hp.wp_store 2 sh rfl rfl rfl rfl (by kernel_rfl) (Nat.le_of_ble_eq_true rfl) rfl ?_ | refine Hp.wp_store 3 sh rfl rfl rfl rfl (by kernel_rfl) (Nat.le_of_ble_eq_true rfl) rfl ?_ | refine Hp.wp_store 4 sh rfl rfl rfl rfl (by kernel_rfl) (Nat.le_of_ble_eq_true rfl) rfl ?_ | refine Hp.wp_store 5 sh rfl rfl rfl rfl (by kernel_rfl) (Nat.le_of_ble_eq_true rfl) rfl ?_ | refine Hp.wp_store 6 sh rfl rfl rfl rfl (by kernel_rfl) (Nat.le_of_ble_eq_true rfl) rfl ?_); clear sh; (try clear F); go_simp; intro w1 sh; have F := sh.facts; (try simp only [Hp.Facts, Hp.CellsAt, Nat.reduceAdd, List.cons_append, List.nil_append] at F))
              | fail)
          exact bodyPost_ret (Hp.res_ct rfl rfl (sh.load 2 rfl (by kernel_rfl) (by kernel_rfl))) rfl (HeaP.AllP.mk (HeaP.all_end HH.out.1 HR.out he (by omega)) HH.out.2.1 (HeaP.row_new (sh.front (A := [_, _, _, _])) HH.out.2.2) ((sh.front (A := [_, _, _, _])).cells HH.out.2.2) sh.below)
      · obtain rfl : k = N := by omega
        have g1 : ¬ (k : Int) < n := by omega
        go_wp2_with (first
            | ((with_reducible refine Hp.wpl_box sh ?_ ?_); exact rfl; clear sh; (try clear F); go_simp; intro b w1 sh; have F := sh.facts; (try simp only [Hp.Facts, Hp.CellsAt, Nat.reduceAdd, List.cons_append, List.nil_append] at F))
            | ((with_reducible refine Hp.wpl_alloc Try.z_health sh ?_ ?_); exact rfl; clear sh; (try clear F); go_simp; intro b w1 sh; have F := sh.facts; (try simp only [Hp.Facts, Hp.CellsAt, Nat.reduceAdd, List.cons_append, List.nil_append] at F))
            | ((with_reducible refine Hp.wpl_alloc Try.z_part sh ?_ ?_); exact rfl; clear sh; (try clear F); go_simp; intro b w1 sh; have F := sh.facts; (try simp only [Hp.Facts, Hp.CellsAt, Nat.reduceAdd, List.cons_append, List.nil_append] at F))
            | ((with_reducible refine Hp.atl_store ?_ ?_); exact rfl; (first | refine Hp.wp_store 0 sh rfl rfl rfl rfl (by kernel_rfl) (Nat.le_of_ble_eq_true rfl) rfl ?_ | refine Hp.wp_store 1 sh rfl rfl rfl rfl (by kernel_rfl) (Nat.le_of_ble_eq_true rfl) rfl ?_ | refine Hp.wp_store 2 sh rfl rfl rfl rfl (by kernel_rfl) (Nat.le_of_ble_eq_true rfl) rfl ?_ | refine Hp.wp_store 3 sh rfl rfl rfl rfl (by kernel_rfl) (Nat.le_of_ble_eq_true rfl) rfl ?_ | refine Hp.wp_store 4 sh rfl rfl rfl rfl (by kernel_rfl) (Nat.le_of_ble_eq_true rfl) rfl ?_ | refine Hp.wp_store 5 sh rfl rfl rfl rfl (by kernel_rfl) (Nat.le_of_ble_eq_true rfl) rfl ?_ | refine Hp.wp_store 6 sh rfl rfl rfl rfl (by kernel_rfl) (Nat.le_of_ble_eq_true rfl) rfl ?_); clear sh; (try clear F); go_simp; intro w1 sh; have F := sh.facts; (try simp only [Hp.Facts, Hp.CellsAt, Nat.reduceAdd, List.cons_append, List.nil_append] at F))
            | fail)
        exact bodyPost_ret (Hp.res_ct rfl rfl (sh.load 1 rfl (by kernel_rfl) (by kernel_rfl))) rfl (HeaP.AllP.mk HH.out.1 HH.out.2.1 (HeaP.row_new (sh.front (A := [_, _, _])) HH.out.2.2) ((sh.front (A := [_, _, _])).cells HH.out.2.2) sh.below)
  
set_option maxHeartbeats 4000000 in
set_option maxRecDepth 100000 in
theorem hallR (p0 p1 p2 : Int) (cs : Option Addr) (cn cc : Nat) (fa ag : Int) (n : Int) (w : World) (hfa : -9223372036854775808 ≤ fa ∧ fa ≤ 9223372036854775807) (hag : -9223372036854775808 ≤ ag ∧ ag ≤ 9223372036854775807) (hn : -9223372036854775808 ≤ n ∧ n ≤ 9223372036854775807) :
    Calls Try.prog 13 #[.agg #[.int .i64 p0, .int .i64 p1, .int .i64 p2, .slice cs cn cc, .int .i64 fa, .int .i64 ag], .int .i64 n] w fun e w' => HeaP.AllP (HeaP.all fa ag (min n 1000).toNat) w e w' := by
  have sh : Hp.Sh w w [] (fun _ => True) := Hp.Sh.start (fun _ _ => trivial)
  generalize hN : (min n 1000).toNat = N
  have hN1 : N ≤ 1000 := by omega
  have hN2 : (0 ≤ n ∧ n ≤ 1000 ∧ (N : Int) = n) ∨ (n < 0 ∧ N = 0) ∨ (1000 < n ∧ N = 1000) := by omega
  clear hN
  go_enter Try.func13, Try.ntmps13
  have tok_bp : True := trivial
  have tok_br : True := trivial
  have tok_bh : True := trivial
  go_wp2_with (first
      | ((have tok := tok_bp); clear tok tok_bp; (first | (with_reducible refine Hp.wpl_box sh ?_ ?_) | (with_reducible refine Hp.wpl_alloc Try.z_health sh ?_ ?_) | (with_reducible refine Hp.wpl_alloc Try.z_part sh ?_ ?_)); exact rfl; clear sh; (try clear F); go_simp; intro bp w1 sh; have F := sh.facts; (try simp only [Hp.Facts, Hp.CellsAt, Nat.reduceAdd, List.cons_append, List.nil_append] at F))
      | ((have tok := tok_br); clear tok tok_br; (first | (with_reducible refine Hp.wpl_box sh ?_ ?_) | (with_reducible refine Hp.wpl_alloc Try.z_health sh ?_ ?_) | (with_reducible refine Hp.wpl_alloc Try.z_part sh ?_ ?_)); exact rfl; clear sh; (try clear F); go_simp; intro br w1 sh; have F := sh.facts; (try simp only [Hp.Facts, Hp.CellsAt, Nat.reduceAdd, List.cons_append, List.nil_append] at F))
      | ((have tok := tok_bh); clear tok tok_bh; (first | (with_reducible refine Hp.wpl_box sh ?_ ?_) | (with_reducible refine Hp.wpl_alloc Try.z_health sh ?_ ?_) | (with_reducible refine Hp.wpl_alloc Try.z_part sh ?_ ?_)); exact rfl; clear sh; (try clear F); go_simp; intro bh w1 sh; have F := sh.facts; (try simp only [Hp.Facts, Hp.CellsAt, Nat.reduceAdd, List.cons_append, List.nil_append] at F))
      | ((with_reducible refine Hp.wpl_box sh ?_ ?_); exact rfl; clear sh; (try clear F); go_simp; intro b w1 sh; have F := sh.facts; (try simp only [Hp.Facts, Hp.CellsAt, Nat.reduceAdd, List.cons_append, List.nil_append] at F))
      | ((with_reducible refine Hp.wpl_alloc Try.z_health sh ?_ ?_); exact rfl; clear sh; (try clear F); go_simp; intro b w1 sh; have F := sh.facts; (try simp only [Hp.Facts, Hp.CellsAt, Nat.reduceAdd, List.cons_append, List.nil_append] at F))
      | ((with_reducible refine Hp.wpl_alloc Try.z_part sh ?_ ?_); exact rfl; clear sh; (try clear F); go_simp; intro b w1 sh; have F := sh.facts; (try simp only [Hp.Facts, Hp.CellsAt, Nat.reduceAdd, List.cons_append, List.nil_append] at F))
      | ((with_reducible refine Hp.atl_store ?_ ?_); exact rfl; (first | refine Hp.wp_store 0 sh rfl rfl rfl rfl (by kernel_rfl) (Nat.le_of_ble_eq_true rfl) rfl ?_ | refine Hp.wp_store 1 sh rfl rfl rfl rfl (by kernel_rfl) (Nat.le_of_ble_eq_true rfl) rfl ?_ | refine Hp.wp_store 2 sh rfl rfl rfl rfl (by kernel_rfl) (Nat.le_of_ble_eq_true rfl) rfl ?_ | refine Hp.wp_store 3 sh rfl rfl rfl rfl (by kernel_rfl) (Nat.le_of_ble_eq_true rfl) rfl ?_ | refine Hp.wp_store 4 sh rfl rfl rfl rfl (by kernel_rfl) (Nat.le_of_ble_eq_true rfl) rfl ?_ | refine Hp.wp_store 5 sh rfl rfl rfl rfl (by kernel_rfl) (Nat.le_of_ble_eq_true rfl) rfl ?_ | refine Hp.wp_store 6 sh rfl rfl rfl rfl (by kernel_rfl) (Nat.le_of_ble_eq_true rfl) rfl ?_); clear sh; (try clear F); go_simp; intro w1 sh; have F := sh.facts; (try simp only [Hp.Facts, Hp.CellsAt, Nat.reduceAdd, List.cons_append, List.nil_append] at F))
      | fail)
  go_loopw [7, 8] (fun v i wr => ∃ (k : Nat) (f a : Int) (d : Bool) (l : List Int) (R : List Hp.Blk) (s : Option Addr) (m c : Nat), v = .slice s m c ∧ i = .int .i64 k ∧ k ≤ N ∧ m ≤ k ∧ Hid (HeaP.all fa ag k = ((f, a, d), l) ∧ m = l.length ∧ Hp.RowIs 3 1 (.slice s m c) m (nums l) R) ∧
      Hp.Sh w wr ([(bh, #[.int .i64 f, .int .i64 a, .bool d], 26), (br, #[.int .i64 0, .int .i64 0, .bool false], 26), (bp, #[.int .i64 p0, .int .i64 p1, .int .i64 p2, .slice cs cn cc, .int .i64 fa, .int .i64 ag], 24)] ++ R) (fun _ => True)) (fun _ i _ => N - (intOf i).toNat)
  case atStart => exact ⟨0, 0, 0, false, [], [], none, 0, 0, rfl, rfl, by omega, by omega, ⟨rfl, rfl, Hp.RowIs.nil _ _⟩, sh⟩
  case round =>
    clear sh F
    obtain ⟨k, f, a, d, l, R, s, m, c, rfl, rfl, hk, hmk, HH, sh⟩ := hrel
    have F := sh.facts; (try simp only [Hp.Facts, Hp.CellsAt, Nat.reduceAdd, List.cons_append, List.nil_append] at F)
    by_cases hlt : k < N
    · have g1 : (k : Int) < n := by omega
      have g2 : (k : Int) < 1000 := by omega
      have hra := HeaP.all_range fa ag k
      rw [HH.out.1] at hra
      dsimp only at hra
      have HT := Lib.hid (fun W => htellR p0 p1 p2 cs cn cc fa ag f a d W hfa hag (by omega) (by omega))
      clear hra
      generalize hr : HeaP.tell fa ag (f, a, d) = r at HT
      obtain ⟨⟨f', a', d'⟩, n', e'⟩ := r
      have HR := Lib.hid hr
      clear hr
      simp only [HeaP.tv] at HT
      by_cases he : e' = 0
      · subst he
        go_wp2_with (first
            | ((with_reducible refine Hp.wpl_box sh ?_ ?_); exact rfl; clear sh; (try clear F); go_simp; intro b w1 sh; have F := sh.facts; (try simp only [Hp.Facts, Hp.CellsAt, Nat.reduceAdd, List.cons_append, List.nil_append] at F))
            | ((with_reducible refine Hp.wpl_alloc Try.z_health sh ?_ ?_); exact rfl; clear sh; (try clear F); go_simp; intro b w1 sh; have F := sh.facts; (try simp only [Hp.Facts, Hp.CellsAt, Nat.reduceAdd, List.cons_append, List.nil_append] at F))
            | ((with_reducible refine Hp.wpl_alloc Try.z_part sh ?_ ?_); exact rfl; clear sh; (try clear F); go_simp; intro b w1 sh; have F := sh.facts; (try simp only [Hp.Facts, Hp.CellsAt, Nat.reduceAdd, List.cons_append, List.nil_append] at F))
            | ((with_reducible refine Hp.atl_store ?_ ?_); exact rfl; (first | refine Hp.wp_store 0 sh rfl rfl rfl rfl (by kernel_rfl) (Nat.le_of_ble_eq_true rfl) rfl ?_ | refine Hp.wp_store 1 sh rfl rfl rfl rfl (by kernel_rfl) (Nat.le_of_ble_eq_true rfl) rfl ?_ | refine Hp.wp_store 2 sh rfl rfl rfl rfl (by kernel_rfl) (Nat.le_of_ble_eq_true rfl) rfl ?_ | refine Hp.wp_store 3 sh rfl rfl rfl rfl (by kernel_rfl) (Nat.le_of_ble_eq_true rfl) rfl ?_ | refine Hp.wp_store 4 sh rfl rfl rfl rfl (by kernel_rfl) (Nat.le_of_ble_eq_true rfl) rfl ?_ | refine Hp.wp_store 5 sh rfl rfl rfl rfl (by kernel_rfl) (Nat.le_of_ble_eq_true rfl) rfl ?_ | refine Hp.wp_store 6 sh rfl rfl rfl rfl (by kernel_rfl) (Nat.le_of_ble_eq_true rfl) rfl ?_); clear sh; (try clear F); go_simp; intro w1 sh; have F := sh.facts; (try simp only [Hp.Facts, Hp.CellsAt, Nat.reduceAdd, List.cons_append, List.nil_append] at F))
            | fail)
        go_fit (HT.out _)
        rintro e w1 ⟨rfl, hb⟩
        replace sh := sh.call hb; clear hb; (try clear F); have F := sh.facts; (try simp only [Hp.Facts, Hp.CellsAt, Nat.reduceAdd, List.cons_append, List.nil_append] at F)
        have tok_b8 : True := trivial
        go_wp2_with (first
            | ((with_reducible refine Hp.atl_lit ?_ ?_); exact rfl; (refine Hp.wp_lit 1 [Value.int .i64 n'] Try.i_int Try.underlying32 sh rfl rfl (by omega) rfl ?_); clear sh; (try clear F); intro b w1 sh; replace sh := sh.freeze1 (vs := [Value.int .i64 n']) (fun i v h => by simpa using h); have F := sh.facts; (try simp only [Hp.Facts, Hp.CellsAt, Nat.reduceAdd, List.cons_append, List.nil_append] at F); go_simp)
            | ((with_reducible refine Hp.atl_append 33 ?_ ?_); exact rfl; go_loud (refine Hp.wp_append (R := R) (H := [(b8, _, _), (bh, _, _), (br, _, _), (bp, _, _)]) (news := [Value.int .i64 n']) Try.i_int Try.underlying32 (by decide) rfl (by decide) (sh.front (A := [_, _, _, _]) (R := R)) HH.out.2.2 rfl rfl rfl sh.data.1 (fun h => by cases h) (Hp.ones_mem rfl) (by omega) ?_); clear sh F; intro v1 R1 w1 sh hr; have HR1 := Lib.hid hr; clear hr; go_simp)
            | ((have tok := tok_b8); clear tok tok_b8; (first | (with_reducible refine Hp.wpl_box sh ?_ ?_) | (with_reducible refine Hp.wpl_alloc Try.z_health sh ?_ ?_) | (with_reducible refine Hp.wpl_alloc Try.z_part sh ?_ ?_)); exact rfl; clear sh; (try clear F); go_simp; intro b8 w1 sh; have F := sh.facts; (try simp only [Hp.Facts, Hp.CellsAt, Nat.reduceAdd, List.cons_append, List.nil_append] at F))
            | ((with_reducible refine Hp.wpl_box sh ?_ ?_); exact rfl; clear sh; (try clear F); go_simp; intro b w1 sh; have F := sh.facts; (try simp only [Hp.Facts, Hp.CellsAt, Nat.reduceAdd, List.cons_append, List.nil_append] at F))
            | ((with_reducible refine Hp.wpl_alloc Try.z_health sh ?_ ?_); exact rfl; clear sh; (try clear F); go_simp; intro b w1 sh; have F := sh.facts; (try simp only [Hp.Facts, Hp.CellsAt, Nat.reduceAdd, List.cons_append, List.nil_append] at F))
            | ((with_reducible refine Hp.wpl_alloc Try.z_part sh ?_ ?_); exact rfl; clear sh; (try clear F); go_simp; intro b w1 sh; have F := sh.facts; (try simp only [Hp.Facts, Hp.CellsAt, Nat.reduceAdd, List.cons_append, List.nil_append] at F))
            | ((with_reducible refine Hp.atl_store ?_ ?_); exact rfl; (first | refine Hp.wp_store 0 sh rfl rfl rfl rfl (by kernel_rfl) (Nat.le_of_ble_eq_true rfl) rfl ?_ | refine Hp.wp_store 1 sh rfl rfl rfl rfl (by kernel_rfl) (Nat.le_of_ble_eq_true rfl) rfl ?_ | refine Hp.wp_store 2 sh rfl rfl rfl rfl (by kernel_rfl) (Nat.le_of_ble_eq_true rfl) rfl ?_ | refine Hp.wp_store 3 sh rfl rfl rfl rfl (by kernel_rfl) (Nat.le_of_ble_eq_true rfl) rfl ?_ | refine Hp.wp_store 4 sh rfl rfl rfl rfl (by kernel_rfl) (Nat.le_of_ble_eq_true rfl) rfl ?_ | refine Hp.wp_store 5 sh rfl rfl rfl rfl (by kernel_rfl) (Nat.le_of_ble_eq_true rfl) rfl ?_ | refine Hp.wp_store 6 sh rfl rfl rfl rfl (by kernel_rfl) (Nat.le_of_ble_eq_true rfl) rfl ?_); clear sh; (try clear F); go_simp; intro w1 sh; have F := sh.facts; (try simp only [Hp.Facts, Hp.CellsAt, Nat.reduceAdd, List.cons_append, List.nil_append] at F))
            | fail)
        obtain ⟨s7, c7, rfl, -, -, -⟩ := HR1.out.slice
        go_roundw
        case rel => exact ⟨k + 1, f', a', d', l ++ [n'], R1, s7, m + 1, c7, rfl, by go_num, by omega, by omega, ⟨HeaP.all_step HH.out.1 HR.out, by simp [HH.out.2.1], by have h := HR1.out; simpa [nums] using h⟩, ((sh.sub (List.Sublist.append_left (List.sublist_cons_self _ _) _)).front).imp fun W h => trivial⟩
        case measure => simp [intOf]; omega
      · have heb : (e' != 0) = true := by simp [he]
        go_wp2_with (first
            | ((with_reducible refine Hp.wpl_box sh ?_ ?_); exact rfl; clear sh; (try clear F); go_simp; intro b w1 sh; have F := sh.facts; (try simp only [Hp.Facts, Hp.CellsAt, Nat.reduceAdd, List.cons_append, List.nil_append] at F))
            | ((with_reducible refine Hp.wpl_alloc Try.z_health sh ?_ ?_); exact rfl; clear sh; (try clear F); go_simp; intro b w1 sh; have F := sh.facts; (try simp only [Hp.Facts, Hp.CellsAt, Nat.reduceAdd, List.cons_append, List.nil_append] at F))
            | ((with_reducible refine Hp.wpl_alloc Try.z_part sh ?_ ?_); exact rfl; clear sh; (try clear F); go_simp; intro b w1 sh; have F := sh.facts; (try simp only [Hp.Facts, Hp.CellsAt, Nat.reduceAdd, List.cons_append, List.nil_append] at F))
            | ((with_reducible refine Hp.atl_store ?_ ?_); exact rfl; (first | refine Hp.wp_store 0 sh rfl rfl rfl rfl (by kernel_rfl) (Nat.le_of_ble_eq_true rfl) rfl ?_ | refine Hp.wp_store 1 sh rfl rfl rfl rfl (by kernel_rfl) (Nat.le_of_ble_eq_true rfl) rfl ?_ | refine Hp.wp_store 2 sh rfl rfl rfl rfl (by kernel_rfl) (Nat.le_of_ble_eq_true rfl) rfl ?_ | refine Hp.wp_store 3 sh rfl rfl rfl rfl (by kernel_rfl) (Nat.le_of_ble_eq_true rfl) rfl ?_ | refine Hp.wp_store 4 sh rfl rfl rfl rfl (by kernel_rfl) (Nat.le_of_ble_eq_true rfl) rfl ?_ | refine Hp.wp_store 5 sh rfl rfl rfl rfl (by kernel_rfl) (Nat.le_of_ble_eq_true rfl) rfl ?_ | refine Hp.wp_store 6 sh rfl rfl rfl rfl (by kernel_rfl) (Nat.le_of_ble_eq_true rfl) rfl ?_); clear sh; (try clear F); go_simp; intro w1 sh; have F := sh.facts; (try simp only [Hp.Facts, Hp.CellsAt, Nat.reduceAdd, List.cons_append, List.nil_append] at F))
            | fail)
        go_fit (HT.out _)
        rintro e w1 ⟨rfl, hb⟩
        replace sh := sh.call hb; clear hb; (try clear F); have F := sh.facts; (try simp only [Hp.Facts, Hp.CellsAt, Nat.reduceAdd, List.cons_append, List.nil_append] at F)
        go_wp2_with (first
            | ((with_reducible refine Hp.wpl_box sh ?_ ?_); exact rfl; clear sh; (try clear F); go_simp; intro b w1 sh; have F := sh.facts; (try simp only [Hp.Facts, Hp.CellsAt, Nat.reduceAdd, List.cons_append, List.nil_append] at F))
            | ((with_reducible refine Hp.wpl_alloc Try.z_health sh ?_ ?_); exact rfl; clear sh; (try clear F); go_simp; intro b w1 sh; have F := sh.facts; (try simp only [Hp.Facts, Hp.CellsAt, Nat.reduceAdd, List.cons_append, List.nil_append] at F))
            | ((with_reducible refine Hp.wpl_alloc Try.z_part sh ?_ ?_); exact rfl; clear sh; (try clear F); go_simp; intro b w1 sh; have F := sh.facts; (try simp only [Hp.Facts, Hp.CellsAt, Nat.reduceAdd, List.cons_append, List.nil_append] at F))
            | ((with_reducible refine Hp.atl_store ?_ ?_); exact rfl; (first | refine Hp.wp_store 0 sh rfl rfl rfl rfl (by kernel_rfl) (Nat.le_of_ble_eq_true rfl) rfl ?_ | refine Hp.wp_store 1 sh rfl rfl rfl rfl (by kernel_rfl) (Nat.le_of_ble_eq_true rfl) rfl ?_ | refine Hp.wp_store 2 sh rfl rfl rfl rfl (by kernel_rfl) (Nat.le_of_ble_eq_true rfl) rfl ?_ | refine Hp.wp_store 3 sh rfl rfl rfl rfl (by kernel_rfl) (Nat.le_of_ble_eq_true rfl) rfl ?_ | refine Hp.wp_store 4 sh rfl rfl rfl rfl (by kernel_rfl) (Nat.le_of_ble_eq_true rfl) rfl ?_ | refine Hp.wp_store 5 sh rfl rfl rfl rfl (by kernel_rfl) (Nat.le_of_ble_eq_true rfl) rfl ?_ | refine Hp.wp_store 6 sh rfl rfl rfl rfl (by kernel_rfl) (Nat.le_of_ble_eq_true rfl) rfl ?_); clear sh; (try clear F); go_simp; intro w1 sh; have F := sh.facts; (try simp only [Hp.Facts, Hp.CellsAt, Nat.reduceAdd, List.cons_append, List.nil_append] at F))
            | fail)
        exact bodyPost_ret (Hp.res_ct rfl rfl (sh.load 2 rfl (by kernel_rfl) (by kernel_rfl))) rfl (HeaP.AllP.mk (HeaP.all_end HH.out.1 HR.out he (by omega)) HH.out.2.1 (HeaP.row_new (sh.front (A := [_, _, _, _])) HH.out.2.2) ((sh.front (A := [_, _, _, _])).cells HH.out.2.2) sh.below)
    · obtain rfl : k = N := by omega
      have g1 : ¬ (k : Int) < n ∨ ¬ (k : Int) < 1000 := by omega
      rcases Classical.em ((k : Int) < n) with g2 | g2
      · have g3 : ¬ (k : Int) < 1000 := by omega
        go_wp2_with (first
            | ((with_reducible refine Hp.wpl_box sh ?_ ?_); exact rfl; clear sh; (try clear F); go_simp; intro b w1 sh; have F := sh.facts; (try simp only [Hp.Facts, Hp.CellsAt, Nat.reduceAdd, List.cons_append, List.nil_append] at F))
            | ((with_reducible refine Hp.wpl_alloc Try.z_health sh ?_ ?_); exact rfl; clear sh; (try clear F); go_simp; intro b w1 sh; have F := sh.facts; (try simp only [Hp.Facts, Hp.CellsAt, Nat.reduceAdd, List.cons_append, List.nil_append] at F))
            | ((with_reducible refine Hp.wpl_alloc Try.z_part sh ?_ ?_); exact rfl; clear sh; (try clear F); go_simp; intro b w1 sh; have F := sh.facts; (try simp only [Hp.Facts, Hp.CellsAt, Nat.reduceAdd, List.cons_append, List.nil_append] at F))
            | ((with_reducible refine Hp.atl_store ?_ ?_); exact rfl; (first | refine Hp.wp_store 0 sh rfl rfl rfl rfl (by kernel_rfl) (Nat.le_of_ble_eq_true rfl) rfl ?_ | refine Hp.wp_store 1 sh rfl rfl rfl rfl (by kernel_rfl) (Nat.le_of_ble_eq_true rfl) rfl ?_ | refine Hp.wp_store 2 sh rfl rfl rfl rfl (by kernel_rfl) (Nat.le_of_ble_eq_true rfl) rfl ?_ | refine Hp.wp_store 3 sh rfl rfl rfl rfl (by kernel_rfl) (Nat.le_of_ble_eq_true rfl) rfl ?_ | refine Hp.wp_store 4 sh rfl rfl rfl rfl (by kernel_rfl) (Nat.le_of_ble_eq_true rfl) rfl ?_ | refine Hp.wp_store 5 sh rfl rfl rfl rfl (by kernel_rfl) (Nat.le_of_ble_eq_true rfl) rfl ?_ | refine Hp.wp_store 6 sh rfl rfl rfl rfl (by kernel_rfl) (Nat.le_of_ble_eq_true rfl) rfl ?_); clear sh; (try clear F); go_simp; intro w1 sh; have F := sh.facts; (try simp only [Hp.Facts, Hp.CellsAt, Nat.reduceAdd, List.cons_append, List.nil_append] at F))
            | fail)
        exact bodyPost_ret (Hp.res_ct rfl rfl (sh.load 1 rfl (by kernel_rfl) (by kernel_rfl))) rfl (HeaP.AllP.mk HH.out.1 HH.out.2.1 (HeaP.row_new (sh.front (A := [_, _, _])) HH.out.2.2) ((sh.front (A := [_, _, _])).cells HH.out.2.2) sh.below)
      · go_wp2_with (first
            | ((with_reducible refine Hp.wpl_box sh ?_ ?_); exact rfl; clear sh; (try clear F); go_simp; intro b w1 sh; have F := sh.facts; (try simp only [Hp.Facts, Hp.CellsAt, Nat.reduceAdd, List.cons_append, List.nil_append] at F))
            | ((with_reducible refine Hp.wpl_alloc Try.z_health sh ?_ ?_); exact rfl; clear sh; (try clear F); go_simp; intro b w1 sh; have F := sh.facts; (try simp only [Hp.Facts, Hp.CellsAt, Nat.reduceAdd, List.cons_append, List.nil_append] at F))
            | ((with_reducible refine Hp.wpl_alloc Try.z_part sh ?_ ?_); exact rfl; clear sh; (try clear F); go_simp; intro b w1 sh; have F := sh.facts; (try simp only [Hp.Facts, Hp.CellsAt, Nat.reduceAdd, List.cons_append, List.nil_append] at F))
            | ((with_reducible refine Hp.atl_store ?_ ?_); exact rfl; (first | refine Hp.wp_store 0 sh rfl rfl rfl rfl (by kernel_rfl) (Nat.le_of_ble_eq_true rfl) rfl ?_ | refine Hp.wp_store 1 sh rfl rfl rfl rfl (by kernel_rfl) (Nat.le_of_ble_eq_true rfl) rfl ?_ | refine Hp.wp_store 2 sh rfl rfl rfl rfl (by kernel_rfl) (Nat.le_of_ble_eq_true rfl) rfl ?_ | refine Hp.wp_store 3 sh rfl rfl rfl rfl (by kernel_rfl) (Nat.le_of_ble_eq_true rfl) rfl ?_ | refine Hp.wp_store 4 sh rfl rfl rfl rfl (by kernel_rfl) (Nat.le_of_ble_eq_true rfl) rfl ?_ | refine Hp.wp_store 5 sh rfl rfl rfl rfl (by kernel_rfl) (Nat.le_of_ble_eq_true rfl) rfl ?_ | refine Hp.wp_store 6 sh rfl rfl rfl rfl (by kernel_rfl) (Nat.le_of_ble_eq_true rfl) rfl ?_); clear sh; (try clear F); go_simp; intro w1 sh; have F := sh.facts; (try simp only [Hp.Facts, Hp.CellsAt, Nat.reduceAdd, List.cons_append, List.nil_append] at F))
            | fail)
        exact bodyPost_ret (Hp.res_ct rfl rfl (sh.load 1 rfl (by kernel_rfl) (by kernel_rfl))) rfl (HeaP.AllP.mk HH.out.1 HH.out.2.1 (HeaP.row_new (sh.front (A := [_, _, _])) HH.out.2.2) ((sh.front (A := [_, _, _])).cells HH.out.2.2) sh.below)

end Go.Proofs.Ytbebcbbjbnohnaa
