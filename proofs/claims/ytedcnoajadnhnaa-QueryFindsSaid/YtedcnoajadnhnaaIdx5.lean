
/-
  The walk of index's Put.
-/
import Derived.Test.YtedcnoajadnhnaaIdx4
namespace Go.Proofs.Ytedcnoajadnhnaa
open Go.RowKit
set_option linter.unusedVariables false
set_option linter.unusedSimpArgs false
theorem Try.z_bld (W : World) : (zeroValue 65).run Try.prog W = .ok (.agg #[.pointer none, .slice none 0 0]) W := by kernel_rfl
theorem Try.i_u64 : (Try.prog.info? 22).map (fun i => (i.zero, i.size, i.bytes)) = some (some (.int .u64 0), 1, 8) := by kernel_rfl
theorem Bld.lt {B b : Nat} {l : List UInt8} {w : World} (h : Bld B b l w) : b < w.heap.size := by
  rcases h.1 with ⟨h1, v, h2, -⟩ | ⟨h1, v, h2, -⟩ <;> exact (Array.getElem?_eq_some_iff.1 h2).1
theorem Bld.start {w0 w1 : World} {b : Nat} {H : List Hp.Blk} {D : World → Prop} (sh : Hp.Sh w0 w1 ((b, #[.pointer none, .slice none 0 0], 65) :: H) D) : Bld w0.heap.size b [] w1 :=
  ⟨.inl ⟨sh.ge _ (.head _), .slice none 0 0, sh.own _ (.head _), World.ownsRowF_nil _ _ _ _, by simp [Value.ownBlock]⟩, sh.below.size⟩
namespace IdxP
def PutP (X : List UInt8 × Int) (w : World) (e : Ending) (w' : World) : Prop := e = .returned (.tuple #[.string (bstr X.1), .int .i64 X.2]) ∧ Below w.heap.size w w'
theorem putB_len {b : Bk} (h : BkB b) (hf : fitB b = true) : (putB b).length ≤ 70 := by
  obtain ⟨f1, f2, f3, f4⟩ := fit_iff.1 hf
  obtain ⟨h1, h2, h3, h4, h5, h6, h7⟩ := h
  have q0 := WireP.putL_le10 b.1.toNat (by omega)
  have q1 := WireP.putL_le10 b.2.1.toNat (by omega)
  have q2 := WireP.putL_le10 b.2.2.1.toNat (by omega)
  have q3 := WireP.putL_le10 b.2.2.2.1.toNat (by omega)
  have q4 := WireP.putL_le10 b.2.2.2.2.1.toNat (by omega)
  have q5 := WireP.putL_le10 b.2.2.2.2.2.1.toNat (by omega)
  have q6 := WireP.putL_le10 b.2.2.2.2.2.2.toNat (by omega)
  unfold putB nsOf
  simp only [List.flatMap_cons, List.flatMap_nil, List.length_append, List.length_nil]
  omega
theorem nsOf_lt {b : Bk} (h : BkB b) : ∀ x ∈ nsOf b, x < 18446744073709551616 := by
  obtain ⟨h1, h2, h3, h4, h5, h6, h7⟩ := h
  intro x hx
  simp only [nsOf, List.mem_cons, List.not_mem_nil, or_false] at hx
  omega
theorem u64s_blk {a0 a1 a2 a3 a4 a5 a6 : Int} (h0 : 0 ≤ a0) (h1 : 0 ≤ a1) (h2 : 0 ≤ a2) (h3 : 0 ≤ a3) (h4 : 0 ≤ a4) (h5 : 0 ≤ a5) (h6 : 0 ≤ a6) : u64s (nsOf (a0, a1, a2, a3, a4, a5, a6)) = [.int .u64 a0, .int .u64 a1, .int .u64 a2, .int .u64 a3, .int .u64 a4, .int .u64 a5, .int .u64 a6] := by
  unfold u64s nsOf
  simp only [List.map_cons, List.map_nil]
  rw [Int.toNat_of_nonneg h0, Int.toNat_of_nonneg h1, Int.toNat_of_nonneg h2, Int.toNat_of_nonneg h3, Int.toNat_of_nonneg h4, Int.toNat_of_nonneg h5, Int.toNat_of_nonneg h6]
theorem wrap64u {x : Int} (h : 0 ≤ x) (h2 : x ≤ 18446744073709551615) : IntKind.u64.wrap x = x := QryP.wrap_u h h2
end IdxP

set_option maxHeartbeats 4000000 in
set_option maxRecDepth 100000 in
theorem iput14 (s : Option Addr) (l : List QryP.Bk) (n c : Nat) (hn : n = l.length) (hnm : n ≤ 9223372036854775807) (hB : ∀ b ∈ l, IdxP.BkB b) (w : World) (hR : Hp.RdV w s (l.flatMap QryP.bc)) :
    Calls Try.prog 20 #[.slice s n c] w fun e w' => IdxP.PutP (IdxP.putI l) w e w' := by
  have sh := (Hp.Sh.start (RdV_rob hR) : Hp.Sh w w [] (fun W => Hp.RdV W s (l.flatMap QryP.bc)))
  have hmf : ∀ (fn : Fn) (first cap : Array Value) (w : World), (Instr.makeFunc fn first cap).run Try.prog w = .ok (.func fn first cap) w := fun _ _ _ _ => rfl
  have HL := Lib.hid hn
  have HB := Lib.hid hB
  have HR0 := Lib.hid hR
  by_cases hbig : 4096 < n
  · have hbI : (4096 : Int) < (n : Int) := by omega
    have HX := Lib.hid (show IdxP.putI l = ([], 2) by unfold IdxP.putI; rw [if_pos (by rw [← HL.out]; exact hbig)])
    clear hn hB hR
    go_enter Try.func20, Try.ntmps20
    have F := sh.facts; (try simp only [Hp.Facts, Hp.CellsAt, Nat.reduceAdd, List.cons_append, List.nil_append] at F)
    go_wp2_with (first
        | ((with_reducible refine Hp.wpl_box sh ?_ ?_); exact rfl; clear sh; (try clear F); go_simp; intro b w1 sh; have F := sh.facts; (try simp only [Hp.Facts, Hp.CellsAt, Nat.reduceAdd, List.cons_append, List.nil_append] at F))
        | ((with_reducible refine Hp.wpl_alloc Try.z_blk sh ?_ ?_); exact rfl; clear sh; (try clear F); go_simp; intro b w1 sh; have F := sh.facts; (try simp only [Hp.Facts, Hp.CellsAt, Nat.reduceAdd, List.cons_append, List.nil_append] at F))
        | ((with_reducible refine Hp.wpl_alloc Try.z_bld sh ?_ ?_); exact rfl; clear sh; (try clear F); go_simp; intro b w1 sh; have F := sh.facts; (try simp only [Hp.Facts, Hp.CellsAt, Nat.reduceAdd, List.cons_append, List.nil_append] at F))
        | ((with_reducible refine Hp.atl_store ?_ ?_); exact rfl; (first | refine Hp.wp_store 0 sh rfl rfl rfl rfl (by kernel_rfl) (Nat.le_of_ble_eq_true rfl) rfl ?_ | refine Hp.wp_store 1 sh rfl rfl rfl rfl (by kernel_rfl) (Nat.le_of_ble_eq_true rfl) rfl ?_ | refine Hp.wp_store 2 sh rfl rfl rfl rfl (by kernel_rfl) (Nat.le_of_ble_eq_true rfl) rfl ?_ | refine Hp.wp_store 3 sh rfl rfl rfl rfl (by kernel_rfl) (Nat.le_of_ble_eq_true rfl) rfl ?_ | refine Hp.wp_store 4 sh rfl rfl rfl rfl (by kernel_rfl) (Nat.le_of_ble_eq_true rfl) rfl ?_ | refine Hp.wp_store 5 sh rfl rfl rfl rfl (by kernel_rfl) (Nat.le_of_ble_eq_true rfl) rfl ?_ | refine Hp.wp_store 6 sh rfl rfl rfl rfl (by kernel_rfl) (Nat.le_of_ble_eq_true rfl) rfl ?_); clear sh; (try clear F); go_simp; intro w1 sh; have F := sh.facts; (try simp only [Hp.Facts, Hp.CellsAt, Nat.reduceAdd, List.cons_append, List.nil_append] at F))
        | fail)
    go_ret2
    exact ⟨by rw [HX.out]; rfl, sh.below⟩
  · have hbI : ¬ (4096 : Int) < (n : Int) := by omega
    clear hn hB hR
    go_enter Try.func20, Try.ntmps20
    have F := sh.facts; (try simp only [Hp.Facts, Hp.CellsAt, Nat.reduceAdd, List.cons_append, List.nil_append] at F)
    go_wp2_with (first
        | ((with_reducible refine Hp.wpl_box sh ?_ ?_); exact rfl; clear sh; (try clear F); go_simp; intro b w1 sh; have F := sh.facts; (try simp only [Hp.Facts, Hp.CellsAt, Nat.reduceAdd, List.cons_append, List.nil_append] at F))
        | ((with_reducible refine Hp.wpl_alloc Try.z_blk sh ?_ ?_); exact rfl; clear sh; (try clear F); go_simp; intro b w1 sh; have F := sh.facts; (try simp only [Hp.Facts, Hp.CellsAt, Nat.reduceAdd, List.cons_append, List.nil_append] at F))
        | ((with_reducible refine Hp.wpl_alloc Try.z_bld sh ?_ ?_); exact rfl; clear sh; (try clear F); go_simp; intro b w1 sh; have F := sh.facts; (try simp only [Hp.Facts, Hp.CellsAt, Nat.reduceAdd, List.cons_append, List.nil_append] at F))
        | ((with_reducible refine Hp.atl_store ?_ ?_); exact rfl; (first | refine Hp.wp_store 0 sh rfl rfl rfl rfl (by kernel_rfl) (Nat.le_of_ble_eq_true rfl) rfl ?_ | refine Hp.wp_store 1 sh rfl rfl rfl rfl (by kernel_rfl) (Nat.le_of_ble_eq_true rfl) rfl ?_ | refine Hp.wp_store 2 sh rfl rfl rfl rfl (by kernel_rfl) (Nat.le_of_ble_eq_true rfl) rfl ?_ | refine Hp.wp_store 3 sh rfl rfl rfl rfl (by kernel_rfl) (Nat.le_of_ble_eq_true rfl) rfl ?_ | refine Hp.wp_store 4 sh rfl rfl rfl rfl (by kernel_rfl) (Nat.le_of_ble_eq_true rfl) rfl ?_ | refine Hp.wp_store 5 sh rfl rfl rfl rfl (by kernel_rfl) (Nat.le_of_ble_eq_true rfl) rfl ?_ | refine Hp.wp_store 6 sh rfl rfl rfl rfl (by kernel_rfl) (Nat.le_of_ble_eq_true rfl) rfl ?_); clear sh; (try clear F); go_simp; intro w1 sh; have F := sh.facts; (try simp only [Hp.Facts, Hp.CellsAt, Nat.reduceAdd, List.cons_append, List.nil_append] at F))
        | fail)
    go_loopw [15] (fun i wr => ∃ k : Nat, i = .int .i64 k ∧ k ≤ n ∧ Hid (∀ j (h : j < l.length), j < k → IdxP.fitB l[j] = true) ∧ Hp.Sh w wr [] (fun W => Hp.RdV W s (l.flatMap QryP.bc))) (fun i _ => n - (intOf i).toNat)
    case atStart => exact ⟨0, rfl, by omega, fun j _ h => absurd h (Nat.not_lt_zero _), sh⟩
    case round =>
      clear sh F
      obtain ⟨k, rfl, hk, HK, sh⟩ := hrel
      by_cases hlt : k < n
      · have hlI : (k : Int) < (n : Int) := by omega
        have hkL : k < l.length := by rw [← HL.out]; exact hlt
        obtain ⟨pp, hp, -⟩ := sh.data (Hp.flat_pos QryP.bc_len (by decide) hkL)
        subst hp
        rcases hx : l[k] with ⟨a0, a1, a2, a3, a4, a5, a6⟩
        have hcs := QryP.bk_cells sh.data hkL hx
        have KF := Lib.hid (fun W => ifit a0 a1 a2 a3 a4 a5 a6 W)
        cases hf : IdxP.fitB (a0, a1, a2, a3, a4, a5, a6) with
        | true =>
          rw [hf] at KF
          have HN := Lib.hid (show ∀ j (h : j < l.length), j < k + 1 → IdxP.fitB l[j] = true by
            intro j h hj
            by_cases e : j = k
            · subst e; rw [hx]; exact hf
            · exact HK.out j h (by omega))
          clear hx hf HK
          have F := sh.facts; (try simp only [Hp.Facts, Hp.CellsAt, Nat.reduceAdd, List.cons_append, List.nil_append] at F)
          have tok_b5 : True := trivial
          go_wp2_with (first
              | ((have tok := tok_b5); clear tok tok_b5; (first | (with_reducible refine Hp.wpl_box sh ?_ ?_) | (with_reducible refine Hp.wpl_alloc Try.z_blk sh ?_ ?_) | (with_reducible refine Hp.wpl_alloc Try.z_bld sh ?_ ?_)); exact rfl; clear sh; (try clear F); go_simp; intro b5 w1 sh; have F := sh.facts; (try simp only [Hp.Facts, Hp.CellsAt, Nat.reduceAdd, List.cons_append, List.nil_append] at F))
              | ((with_reducible refine Hp.wpl_box sh ?_ ?_); exact rfl; clear sh; (try clear F); go_simp; intro b w1 sh; have F := sh.facts; (try simp only [Hp.Facts, Hp.CellsAt, Nat.reduceAdd, List.cons_append, List.nil_append] at F))
              | ((with_reducible refine Hp.wpl_alloc Try.z_blk sh ?_ ?_); exact rfl; clear sh; (try clear F); go_simp; intro b w1 sh; have F := sh.facts; (try simp only [Hp.Facts, Hp.CellsAt, Nat.reduceAdd, List.cons_append, List.nil_append] at F))
              | ((with_reducible refine Hp.wpl_alloc Try.z_bld sh ?_ ?_); exact rfl; clear sh; (try clear F); go_simp; intro b w1 sh; have F := sh.facts; (try simp only [Hp.Facts, Hp.CellsAt, Nat.reduceAdd, List.cons_append, List.nil_append] at F))
              | ((with_reducible refine Hp.atl_store ?_ ?_); exact rfl; (first | refine Hp.wp_store 0 sh rfl rfl rfl rfl (by kernel_rfl) (Nat.le_of_ble_eq_true rfl) rfl ?_ | refine Hp.wp_store 1 sh rfl rfl rfl rfl (by kernel_rfl) (Nat.le_of_ble_eq_true rfl) rfl ?_ | refine Hp.wp_store 2 sh rfl rfl rfl rfl (by kernel_rfl) (Nat.le_of_ble_eq_true rfl) rfl ?_ | refine Hp.wp_store 3 sh rfl rfl rfl rfl (by kernel_rfl) (Nat.le_of_ble_eq_true rfl) rfl ?_ | refine Hp.wp_store 4 sh rfl rfl rfl rfl (by kernel_rfl) (Nat.le_of_ble_eq_true rfl) rfl ?_ | refine Hp.wp_store 5 sh rfl rfl rfl rfl (by kernel_rfl) (Nat.le_of_ble_eq_true rfl) rfl ?_ | refine Hp.wp_store 6 sh rfl rfl rfl rfl (by kernel_rfl) (Nat.le_of_ble_eq_true rfl) rfl ?_); clear sh; (try clear F); go_simp; intro w1 sh; have F := sh.facts; (try simp only [Hp.Facts, Hp.CellsAt, Nat.reduceAdd, List.cons_append, List.nil_append] at F))
              | fail)
          go_fit (KF.out _)
          rintro e w1 ⟨rfl, hb9⟩; replace sh := sh.call hb9; clear hb9 hcs
          (try clear F); (have F := sh.facts; (try simp only [Hp.Facts, Hp.CellsAt, Nat.reduceAdd, List.cons_append, List.nil_append] at F))
          go_wp2_with (first
              | ((with_reducible refine Hp.wpl_box sh ?_ ?_); exact rfl; clear sh; (try clear F); go_simp; intro b w1 sh; have F := sh.facts; (try simp only [Hp.Facts, Hp.CellsAt, Nat.reduceAdd, List.cons_append, List.nil_append] at F))
              | ((with_reducible refine Hp.wpl_alloc Try.z_blk sh ?_ ?_); exact rfl; clear sh; (try clear F); go_simp; intro b w1 sh; have F := sh.facts; (try simp only [Hp.Facts, Hp.CellsAt, Nat.reduceAdd, List.cons_append, List.nil_append] at F))
              | ((with_reducible refine Hp.wpl_alloc Try.z_bld sh ?_ ?_); exact rfl; clear sh; (try clear F); go_simp; intro b w1 sh; have F := sh.facts; (try simp only [Hp.Facts, Hp.CellsAt, Nat.reduceAdd, List.cons_append, List.nil_append] at F))
              | ((with_reducible refine Hp.atl_store ?_ ?_); exact rfl; (first | refine Hp.wp_store 0 sh rfl rfl rfl rfl (by kernel_rfl) (Nat.le_of_ble_eq_true rfl) rfl ?_ | refine Hp.wp_store 1 sh rfl rfl rfl rfl (by kernel_rfl) (Nat.le_of_ble_eq_true rfl) rfl ?_ | refine Hp.wp_store 2 sh rfl rfl rfl rfl (by kernel_rfl) (Nat.le_of_ble_eq_true rfl) rfl ?_ | refine Hp.wp_store 3 sh rfl rfl rfl rfl (by kernel_rfl) (Nat.le_of_ble_eq_true rfl) rfl ?_ | refine Hp.wp_store 4 sh rfl rfl rfl rfl (by kernel_rfl) (Nat.le_of_ble_eq_true rfl) rfl ?_ | refine Hp.wp_store 5 sh rfl rfl rfl rfl (by kernel_rfl) (Nat.le_of_ble_eq_true rfl) rfl ?_ | refine Hp.wp_store 6 sh rfl rfl rfl rfl (by kernel_rfl) (Nat.le_of_ble_eq_true rfl) rfl ?_); clear sh; (try clear F); go_simp; intro w1 sh; have F := sh.facts; (try simp only [Hp.Facts, Hp.CellsAt, Nat.reduceAdd, List.cons_append, List.nil_append] at F))
              | fail)
          go_roundw
          case rel => exact ⟨k + 1, by go_num, by omega, HN.out, sh.drop1⟩
          case measure => simp [intOf]; omega
        | false =>
          rw [hf] at KF
          have HX := Lib.hid (show IdxP.putI l = ([], 1) by
            unfold IdxP.putI
            rw [if_neg (by rw [← HL.out]; exact hbig), if_neg (by rw [List.all_eq_true]; intro h; have := h _ (List.getElem_mem hkL); rw [hx, hf] at this; cases this)])
          clear hx hf HK
          have F := sh.facts; (try simp only [Hp.Facts, Hp.CellsAt, Nat.reduceAdd, List.cons_append, List.nil_append] at F)
          have tok_b5 : True := trivial
          go_wp2_with (first
              | ((have tok := tok_b5); clear tok tok_b5; (first | (with_reducible refine Hp.wpl_box sh ?_ ?_) | (with_reducible refine Hp.wpl_alloc Try.z_blk sh ?_ ?_) | (with_reducible refine Hp.wpl_alloc Try.z_bld sh ?_ ?_)); exact rfl; clear sh; (try clear F); go_simp; intro b5 w1 sh; have F := sh.facts; (try simp only [Hp.Facts, Hp.CellsAt, Nat.reduceAdd, List.cons_append, List.nil_append] at F))
              | ((with_reducible refine Hp.wpl_box sh ?_ ?_); exact rfl; clear sh; (try clear F); go_simp; intro b w1 sh; have F := sh.facts; (try simp only [Hp.Facts, Hp.CellsAt, Nat.reduceAdd, List.cons_append, List.nil_append] at F))
              | ((with_reducible refine Hp.wpl_alloc Try.z_blk sh ?_ ?_); exact rfl; clear sh; (try clear F); go_simp; intro b w1 sh; have F := sh.facts; (try simp only [Hp.Facts, Hp.CellsAt, Nat.reduceAdd, List.cons_append, List.nil_append] at F))
              | ((with_reducible refine Hp.wpl_alloc Try.z_bld sh ?_ ?_); exact rfl; clear sh; (try clear F); go_simp; intro b w1 sh; have F := sh.facts; (try simp only [Hp.Facts, Hp.CellsAt, Nat.reduceAdd, List.cons_append, List.nil_append] at F))
              | ((with_reducible refine Hp.atl_store ?_ ?_); exact rfl; (first | refine Hp.wp_store 0 sh rfl rfl rfl rfl (by kernel_rfl) (Nat.le_of_ble_eq_true rfl) rfl ?_ | refine Hp.wp_store 1 sh rfl rfl rfl rfl (by kernel_rfl) (Nat.le_of_ble_eq_true rfl) rfl ?_ | refine Hp.wp_store 2 sh rfl rfl rfl rfl (by kernel_rfl) (Nat.le_of_ble_eq_true rfl) rfl ?_ | refine Hp.wp_store 3 sh rfl rfl rfl rfl (by kernel_rfl) (Nat.le_of_ble_eq_true rfl) rfl ?_ | refine Hp.wp_store 4 sh rfl rfl rfl rfl (by kernel_rfl) (Nat.le_of_ble_eq_true rfl) rfl ?_ | refine Hp.wp_store 5 sh rfl rfl rfl rfl (by kernel_rfl) (Nat.le_of_ble_eq_true rfl) rfl ?_ | refine Hp.wp_store 6 sh rfl rfl rfl rfl (by kernel_rfl) (Nat.le_of_ble_eq_true rfl) rfl ?_); clear sh; (try clear F); go_simp; intro w1 sh; have F := sh.facts; (try simp only [Hp.Facts, Hp.CellsAt, Nat.reduceAdd, List.cons_append, List.nil_append] at F))
              | fail)
          go_fit (KF.out _)
          rintro e w1 ⟨rfl, hb9⟩; replace sh := sh.call hb9; clear hb9 hcs
          (try clear F); (have F := sh.facts; (try simp only [Hp.Facts, Hp.CellsAt, Nat.reduceAdd, List.cons_append, List.nil_append] at F))
          go_wp2_with (first
              | ((with_reducible refine Hp.wpl_box sh ?_ ?_); exact rfl; clear sh; (try clear F); go_simp; intro b w1 sh; have F := sh.facts; (try simp only [Hp.Facts, Hp.CellsAt, Nat.reduceAdd, List.cons_append, List.nil_append] at F))
              | ((with_reducible refine Hp.wpl_alloc Try.z_blk sh ?_ ?_); exact rfl; clear sh; (try clear F); go_simp; intro b w1 sh; have F := sh.facts; (try simp only [Hp.Facts, Hp.CellsAt, Nat.reduceAdd, List.cons_append, List.nil_append] at F))
              | ((with_reducible refine Hp.wpl_alloc Try.z_bld sh ?_ ?_); exact rfl; clear sh; (try clear F); go_simp; intro b w1 sh; have F := sh.facts; (try simp only [Hp.Facts, Hp.CellsAt, Nat.reduceAdd, List.cons_append, List.nil_append] at F))
              | ((with_reducible refine Hp.atl_store ?_ ?_); exact rfl; (first | refine Hp.wp_store 0 sh rfl rfl rfl rfl (by kernel_rfl) (Nat.le_of_ble_eq_true rfl) rfl ?_ | refine Hp.wp_store 1 sh rfl rfl rfl rfl (by kernel_rfl) (Nat.le_of_ble_eq_true rfl) rfl ?_ | refine Hp.wp_store 2 sh rfl rfl rfl rfl (by kernel_rfl) (Nat.le_of_ble_eq_true rfl) rfl ?_ | refine Hp.wp_store 3 sh rfl rfl rfl rfl (by kernel_rfl) (Nat.le_of_ble_eq_true rfl) rfl ?_ | refine Hp.wp_store 4 sh rfl rfl rfl rfl (by kernel_rfl) (Nat.le_of_ble_eq_true rfl) rfl ?_ | refine Hp.wp_store 5 sh rfl rfl rfl rfl (by kernel_rfl) (Nat.le_of_ble_eq_true rfl) rfl ?_ | refine Hp.wp_store 6 sh rfl rfl rfl rfl (by kernel_rfl) (Nat.le_of_ble_eq_true rfl) rfl ?_); clear sh; (try clear F); go_simp; intro w1 sh; have F := sh.facts; (try simp only [Hp.Facts, Hp.CellsAt, Nat.reduceAdd, List.cons_append, List.nil_append] at F))
              | fail)
          go_ret2
          exact ⟨by rw [HX.out]; rfl, sh.below⟩
      · obtain rfl : k = n := by omega
        have HA := Lib.hid (show l.all IdxP.fitB = true by
          rw [List.all_eq_true]
          intro b hb
          obtain ⟨j, hj, rfl⟩ := List.getElem_of_mem hb
          exact HK.out j hj (by rw [HL.out]; exact hj))
        have HX := Lib.hid (show IdxP.putI l = (WireP.putL k ++ l.flatMap IdxP.putB, 0) by unfold IdxP.putI; rw [if_neg (by rw [← HL.out]; exact hbig), if_pos HA.out, HL.out])
        have hwn : IntKind.u64.wrap (k : Int) = (k : Int) := IdxP.wrap64u (by omega) (by omega)
        clear HK
        have F := sh.facts; (try simp only [Hp.Facts, Hp.CellsAt, Nat.reduceAdd, List.cons_append, List.nil_append] at F)
        have tok_bb : True := trivial
        go_wp2_with (first
            | ((with_reducible refine Hp.atl_lit ?_ ?_); exact rfl; (refine Hp.wp_lit 1 [.int .u64 (k : Int)] Try.i_u64 Try.underlying66 sh rfl rfl (by omega) rfl ?_); clear sh; (try clear F); intro bg w1 sh; (have F := sh.facts; (try simp only [Hp.Facts, Hp.CellsAt, Nat.reduceAdd, List.cons_append, List.nil_append] at F)); go_simp)
            | ((have tok := tok_bb); clear tok tok_bb; (first | (with_reducible refine Hp.wpl_box sh ?_ ?_) | (with_reducible refine Hp.wpl_alloc Try.z_blk sh ?_ ?_) | (with_reducible refine Hp.wpl_alloc Try.z_bld sh ?_ ?_)); exact rfl; clear sh; (try clear F); go_simp; intro bb w1 sh; have F := sh.facts; (try simp only [Hp.Facts, Hp.CellsAt, Nat.reduceAdd, List.cons_append, List.nil_append] at F))
            | ((with_reducible refine Hp.wpl_box sh ?_ ?_); exact rfl; clear sh; (try clear F); go_simp; intro b w1 sh; have F := sh.facts; (try simp only [Hp.Facts, Hp.CellsAt, Nat.reduceAdd, List.cons_append, List.nil_append] at F))
            | ((with_reducible refine Hp.wpl_alloc Try.z_blk sh ?_ ?_); exact rfl; clear sh; (try clear F); go_simp; intro b w1 sh; have F := sh.facts; (try simp only [Hp.Facts, Hp.CellsAt, Nat.reduceAdd, List.cons_append, List.nil_append] at F))
            | ((with_reducible refine Hp.wpl_alloc Try.z_bld sh ?_ ?_); exact rfl; clear sh; (try clear F); go_simp; intro b w1 sh; have F := sh.facts; (try simp only [Hp.Facts, Hp.CellsAt, Nat.reduceAdd, List.cons_append, List.nil_append] at F))
            | ((with_reducible refine Hp.atl_store ?_ ?_); exact rfl; (first | refine Hp.wp_store 0 sh rfl rfl rfl rfl (by kernel_rfl) (Nat.le_of_ble_eq_true rfl) rfl ?_ | refine Hp.wp_store 1 sh rfl rfl rfl rfl (by kernel_rfl) (Nat.le_of_ble_eq_true rfl) rfl ?_ | refine Hp.wp_store 2 sh rfl rfl rfl rfl (by kernel_rfl) (Nat.le_of_ble_eq_true rfl) rfl ?_ | refine Hp.wp_store 3 sh rfl rfl rfl rfl (by kernel_rfl) (Nat.le_of_ble_eq_true rfl) rfl ?_ | refine Hp.wp_store 4 sh rfl rfl rfl rfl (by kernel_rfl) (Nat.le_of_ble_eq_true rfl) rfl ?_ | refine Hp.wp_store 5 sh rfl rfl rfl rfl (by kernel_rfl) (Nat.le_of_ble_eq_true rfl) rfl ?_ | refine Hp.wp_store 6 sh rfl rfl rfl rfl (by kernel_rfl) (Nat.le_of_ble_eq_true rfl) rfl ?_); clear sh; (try clear F); go_simp; intro w1 sh; have F := sh.facts; (try simp only [Hp.Facts, Hp.CellsAt, Nat.reduceAdd, List.cons_append, List.nil_append] at F))
            | fail)
        have hnd := sh.nodup
        have KL := Lib.hid (ilayn w.heap.size bb bg [] [k] 1 1 _ _ rfl (by decide) (by intro x hx; rw [List.mem_singleton.1 hx]; omega) (by simp) (Bld.start sh.drop1) (sh.own _ (.head _)) (by intro e; simp [e] at hnd) (fun i v h => by simpa [IdxP.u64s] using h))
        have HBL := Lib.hid sh.below
        clear hnd hwn
        clear sh
        (try clear F)
        go_fit KL.out
        rintro e w1 ⟨rfl, hb1⟩
        have HS := Lib.hid (show Bld w.heap.size bb (WireP.putL k) w1 ∧ Below w.heap.size w w1 by
          have h1 := hb1.1
          simp only [List.flatMap_cons, List.flatMap_nil, List.append_nil, List.nil_append] at h1
          exact ⟨h1, HBL.out.trans hb1.2.1⟩)
        clear hb1
        go_wp2_with fail
        go_loopw [32] (fun i wr => ∃ j : Nat, i = .int .i64 j ∧ j ≤ k ∧ Hid (Bld w.heap.size bb (WireP.putL k ++ (l.take j).flatMap IdxP.putB) wr ∧ Below w.heap.size w wr ∧ ((l.take j).flatMap IdxP.putB).length ≤ 70 * j)) (fun i _ => k - (intOf i).toNat)
        case atStart => exact ⟨0, rfl, by omega, ⟨by simpa using HS.out.1, HS.out.2, by simp⟩⟩
        case round =>
          obtain ⟨j, rfl, hj, HK⟩ := hrel
          by_cases hjt : j < k
          · have hjI : (j : Int) < (k : Int) := by omega
            have hjL : j < l.length := by rw [← HL.out]; exact hjt
            have sh := Hp.Sh.start (RdV_rob (RdV_rob HR0.out _ (Hp.Off.below HK.out.2.1)))
            obtain ⟨pp, hp, -⟩ := sh.data (Hp.flat_pos QryP.bc_len (by decide) hjL)
            subst hp
            rcases hx : l[j] with ⟨a0, a1, a2, a3, a4, a5, a6⟩
            have hcs := QryP.bk_cells sh.data hjL hx
            have hbb := HB.out _ (List.getElem_mem hjL)
            have hff := List.all_eq_true.1 HA.out _ (List.getElem_mem hjL)
            rw [hx] at hbb hff
            have f := IdxP.fit_iff.1 hff
            obtain ⟨f1, f2, f3, f4⟩ := f
            have hbb' := hbb
            obtain ⟨e1, e2, e3, e4, e5, e6, e7⟩ := hbb'
            dsimp only at f1 f2 f3 f4 e1 e2 e3 e4 e5 e6 e7
            have hw0 : IntKind.u64.wrap a0 = a0 := IdxP.wrap64u f1 (by omega)
            have hw1 : IntKind.u64.wrap a1 = a1 := IdxP.wrap64u f2 (by omega)
            have hw3 : IntKind.u64.wrap a3 = a3 := IdxP.wrap64u f3.1 (by omega)
            have hw4 : IntKind.u64.wrap a4 = a4 := IdxP.wrap64u f4.1 (by omega)
            have HU := Lib.hid (IdxP.u64s_blk (a0 := a0) (a1 := a1) (a2 := a2) (a3 := a3) (a4 := a4) (a5 := a5) (a6 := a6) f1 f2 e3.1 f3.1 f4.1 e6.1 e7.1)
            have HT := Lib.hid (show (l.take (j + 1)).flatMap IdxP.putB = (l.take j).flatMap IdxP.putB ++ IdxP.putB (a0, a1, a2, a3, a4, a5, a6) by rw [List.take_add_one, List.getElem?_eq_getElem hjL, List.flatMap_append, hx]; simp)
            have HPL := Lib.hid (IdxP.putB_len hbb hff)
            have HNL := Lib.hid (IdxP.nsOf_lt hbb)
            clear f1 f2 f3 f4 e1 e2 e3 e4 e5 e6 e7 hbb hff hx
            have F := sh.facts; (try simp only [Hp.Facts, Hp.CellsAt, Nat.reduceAdd, List.cons_append, List.nil_append] at F)
            have tok_b9 : True := trivial
            go_wp2_with (first
                | ((with_reducible refine Hp.atl_lit ?_ ?_); exact rfl; (refine Hp.wp_lit 7 [.int .u64 a0, .int .u64 a1, .int .u64 a2, .int .u64 a3, .int .u64 a4, .int .u64 a5, .int .u64 a6] Try.i_u64 Try.underlying66 sh rfl rfl (by omega) rfl ?_); clear sh; (try clear F); intro bg w1 sh; (have F := sh.facts; (try simp only [Hp.Facts, Hp.CellsAt, Nat.reduceAdd, List.cons_append, List.nil_append] at F)); go_simp)
                | ((have tok := tok_b9); clear tok tok_b9; (first | (with_reducible refine Hp.wpl_box sh ?_ ?_) | (with_reducible refine Hp.wpl_alloc Try.z_blk sh ?_ ?_) | (with_reducible refine Hp.wpl_alloc Try.z_bld sh ?_ ?_)); exact rfl; clear sh; (try clear F); go_simp; intro b9 w1 sh; have F := sh.facts; (try simp only [Hp.Facts, Hp.CellsAt, Nat.reduceAdd, List.cons_append, List.nil_append] at F))
                | ((with_reducible refine Hp.wpl_box sh ?_ ?_); exact rfl; clear sh; (try clear F); go_simp; intro b w1 sh; have F := sh.facts; (try simp only [Hp.Facts, Hp.CellsAt, Nat.reduceAdd, List.cons_append, List.nil_append] at F))
                | ((with_reducible refine Hp.wpl_alloc Try.z_blk sh ?_ ?_); exact rfl; clear sh; (try clear F); go_simp; intro b w1 sh; have F := sh.facts; (try simp only [Hp.Facts, Hp.CellsAt, Nat.reduceAdd, List.cons_append, List.nil_append] at F))
                | ((with_reducible refine Hp.wpl_alloc Try.z_bld sh ?_ ?_); exact rfl; clear sh; (try clear F); go_simp; intro b w1 sh; have F := sh.facts; (try simp only [Hp.Facts, Hp.CellsAt, Nat.reduceAdd, List.cons_append, List.nil_append] at F))
                | ((with_reducible refine Hp.atl_store ?_ ?_); exact rfl; (first | refine Hp.wp_store 0 sh rfl rfl rfl rfl (by kernel_rfl) (Nat.le_of_ble_eq_true rfl) rfl ?_ | refine Hp.wp_store 1 sh rfl rfl rfl rfl (by kernel_rfl) (Nat.le_of_ble_eq_true rfl) rfl ?_ | refine Hp.wp_store 2 sh rfl rfl rfl rfl (by kernel_rfl) (Nat.le_of_ble_eq_true rfl) rfl ?_ | refine Hp.wp_store 3 sh rfl rfl rfl rfl (by kernel_rfl) (Nat.le_of_ble_eq_true rfl) rfl ?_ | refine Hp.wp_store 4 sh rfl rfl rfl rfl (by kernel_rfl) (Nat.le_of_ble_eq_true rfl) rfl ?_ | refine Hp.wp_store 5 sh rfl rfl rfl rfl (by kernel_rfl) (Nat.le_of_ble_eq_true rfl) rfl ?_ | refine Hp.wp_store 6 sh rfl rfl rfl rfl (by kernel_rfl) (Nat.le_of_ble_eq_true rfl) rfl ?_); clear sh; (try clear F); go_simp; intro w1 sh; have F := sh.facts; (try simp only [Hp.Facts, Hp.CellsAt, Nat.reduceAdd, List.cons_append, List.nil_append] at F))
                | fail)
            have KL := Lib.hid (ilayn w.heap.size bb bg _ (IdxP.nsOf (a0, a1, a2, a3, a4, a5, a6)) 7 7 _ _ rfl (by decide) HNL.out (by have := HK.out.2.2; have := WireP.putL_le10 k (by omega); rw [List.length_append]; omega) (HK.out.1.below sh.below) (sh.own _ (.head _)) (by have q1 := sh.ge _ (.head _); have q2 := HK.out.1.lt; dsimp only at q1; omega) (fun i v h => by rw [HU.out] at h; simpa using h))
            have HBL := Lib.hid (HK.out.2.1.trans ((sh.below).mono HK.out.1.2 : Below w.heap.size _ _))
            clear hw0 hw1 hw3 hw4 hcs
            clear sh
            (try clear F)
            go_fit KL.out
            rintro e w2 ⟨rfl, hb2⟩
            have HS2 := Lib.hid (And.intro hb2.1 (HBL.out.trans hb2.2.1))
            clear hb2
            go_wp2_with fail
            go_roundw
            case rel => exact ⟨j + 1, by go_num, by omega, ⟨by rw [HT.out, ← List.append_assoc]; exact HS2.out.1, HS2.out.2, by rw [HT.out, List.length_append]; have := HK.out.2.2; have := HPL.out; omega⟩⟩
            case measure => simp [intOf]; omega
          · obtain rfl : j = k := by omega
            have HE := Lib.hid (show l.take j = l by rw [HL.out, List.take_length])
            have KG := Lib.hid (bld_string w.heap.size bb _ _ HK.out.1)
            go_wp2_with fail
            go_fit KG.out
            rintro e w2 ⟨rfl, hb2⟩
            have HS2 := Lib.hid (HK.out.2.1.trans hb2.2.1)
            clear hb2
            go_wp2_with fail
            go_ret2
            exact ⟨by rw [HX.out, HE.out]; rfl, HS2.out⟩

end Go.Proofs.Ytedcnoajadnhnaa