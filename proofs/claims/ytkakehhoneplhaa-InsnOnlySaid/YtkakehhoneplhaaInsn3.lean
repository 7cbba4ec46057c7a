/-
  The walks of insn.Show and of its reference.
-/
import Derived.Test.YtkakehhoneplhaaInsn2
import Derived.Test.YtkakehhoneplhaaInsnNR
import Derived.Test.YtkakehhoneplhaaInsnShow
namespace Go.Proofs.Ytkakehhoneplhaa
open Go.RowKit
set_option linter.unusedVariables false
set_option linter.unusedSimpArgs false

theorem Try.z_bld (W : World) : (zeroValue 50).run Try.prog W = .ok (.agg #[.pointer none, .slice none 0 0]) W := by kernel_rfl
theorem Try.z_fn (W : World) : (zeroValue 51).run Try.prog W = .ok .nilFunc W := by kernel_rfl

namespace InsP
def nat (z : Int) : List UInt8 := dec z.toNat
def show_ (w : Int) : List UInt8 := if (get w).2 = 0 then (name (get w).1.1).data.toList ++ [32, 114] ++ nat (get w).1.2.1 ++ [32, 114] ++ nat (get w).1.2.2.1 ++ [32] ++ nat (get w).1.2.2.2 else [63, 32] ++ nat w
theorem get_ok {w : Int} (h : (get w).2 = 0) : 0 ≤ (get w).1.1 ∧ (get w).1.1 ≤ 13 ∧ 0 ≤ (get w).1.2.1 ∧ (get w).1.2.1 ≤ 7 ∧ 0 ≤ (get w).1.2.2.1 ∧ (get w).1.2.2.1 ≤ 7 ∧ 0 ≤ (get w).1.2.2.2 ∧ (get w).1.2.2.2 ≤ 65535 := by
  unfold get at h ⊢
  split at h
  · rename_i hr
    rw [if_pos hr]
    rcases right_cases (flds w).1 (flds w).2.1 (flds w).2.2.1 (flds w).2.2.2 with k | k | k | k
    · omega
    · omega
    · omega
    · exact k.2
  · exact absurd h (by assumption)
theorem name_size (o : Int) : (name o).size ≤ 5 := by
  unfold name
  split
  · decide
  · rename_i h
    obtain rfl | rfl | rfl | rfl | rfl | rfl | rfl | rfl | rfl | rfl | rfl | rfl | rfl | rfl : o = 0 ∨ o = 1 ∨ o = 2 ∨ o = 3 ∨ o = 4 ∨ o = 5 ∨ o = 6 ∨ o = 7 ∨ o = 8 ∨ o = 9 ∨ o = 10 ∨ o = 11 ∨ o = 12 ∨ o = 13 := by omega
    all_goals decide
/-- The memory of Show behind its first lines: the builder b, the closure's variable bd, the instruction bx. -/
structure St (w0 : World) (b bd bx : Nat) (x : Ins) (l : List UInt8) (w : World) : Prop where
  bld : Bld w0.heap.size b l w
  at_ : At bd b w
  ins : w.heap[bx]? = some (.cells #[.int .i64 x.1, .int .i64 x.2.1, .int .i64 x.2.2.1, .int .i64 x.2.2.2] 23 (0, 0))
  ne : bx ≠ b
  below : Below w0.heap.size w0 w
theorem St.step {w0 : World} {b bd bx : Nat} {x : Ins} {l m : List UInt8} {w w' : World} (h : St w0 b bd bx x l w) (k : BldTo w0.heap.size b m w w') : St w0 b bd bx x m w' :=
  ⟨k.1, h.at_.kept k.2.2, k.2.2 bx _ h.ins (fun e => h.ne (Option.some.inj e)) (fun c fz e => by cases e), h.ne, h.below.trans k.2.1⟩
theorem St.call {w0 : World} {b bd bx : Nat} {x : Ins} {l : List UInt8} {w w' : World} (h : St w0 b bd bx x l w) (k : Below w.heap.size w w') : St w0 b bd bx x l w' :=
  ⟨h.bld.below k, ⟨by rw [k.block bd (Array.getElem?_eq_some_iff.1 h.at_.1).1]; exact h.at_.1, h.at_.2⟩, by rw [k.block bx (Array.getElem?_eq_some_iff.1 h.ins).1]; exact h.ins, h.ne, below_step h.below k⟩
theorem St.facts {w0 : World} {b bd bx : Nat} {x : Ins} {l : List UInt8} {w : World} (h : St w0 b bd bx x l w) : w.cell? ⟨bx, 0, none⟩ = some (.int .i64 x.1) ∧ w.cell? ⟨bx, 1, none⟩ = some (.int .i64 x.2.1) ∧ w.cell? ⟨bx, 2, none⟩ = some (.int .i64 x.2.2.1) ∧ w.cell? ⟨bx, 3, none⟩ = some (.int .i64 x.2.2.2) := by
  simp [World.cell?, h.ins]
theorem St.start {w0 w1 : World} {bb bd bx : Nat} {o a q n : Int} {D : World → Prop} (sh : Hp.Sh w0 w1 [(bx, #[.int .i64 o, .int .i64 a, .int .i64 q, .int .i64 n], 23), (bd, #[.func (.func 25) #[] #[.pointer (some ⟨bd, 0, none⟩), .pointer (some ⟨bb, 0, none⟩)]], 51), (bb, #[.pointer none, .slice none 0 0], 50)] D) : St w0 bb bd bx (o, a, q, n) [] w1 := by
  have hn := sh.nodup
  simp at hn
  refine ⟨⟨.inl ⟨sh.ge _ (.tail _ (.tail _ (.head _))), .slice none 0 0, sh.own _ (.tail _ (.tail _ (.head _))), World.ownsRowF_nil _ _ _ _, by simp [Value.ownBlock]⟩, sh.below.size⟩, ⟨sh.own _ (.tail _ (.head _)), hn.2⟩, sh.own _ (.head _), hn.1.2, sh.below⟩
end InsP

set_option maxHeartbeats 4000000 in
set_option maxRecDepth 100000 in
theorem ishow (z : Int) (w : World) (hz : 0 ≤ z ∧ z ≤ 4294967295) :
    Calls Try.prog 15 #[.int .u32 z] w fun e w' => e = .returned (.string ⟨(InsP.show_ z).toArray⟩) ∧ Below w.heap.size w w' := by
  have sh : Hp.Sh w w [] (fun _ => True) := Hp.Sh.start (fun _ _ => trivial)
  have hmf : ∀ (fn : Fn) (first cap : Array Value) (w : World), (Instr.makeFunc fn first cap).run Try.prog w = .ok (.func fn first cap) w := fun _ _ _ _ => rfl
  have HG := Lib.hid (fun W => iget z W hz)
  have hok := @InsP.get_ok z
  unfold InsP.show_
  generalize InsP.get z = r at HG hok
  obtain ⟨⟨o, a, q, n⟩, r⟩ := r
  simp only [InsP.iv] at HG
  dsimp only at hok ⊢
  by_cases hr : r = 0
  · subst hr
    obtain ⟨k1, k2, k3, k4, k5, k6, k7, k8⟩ := hok rfl
    clear hok
    have HN := Lib.hid (fun W => iname o W (by omega))
    have hnl : (InsP.name o).data.toList.length ≤ 5 := by rw [Array.length_toList]; exact InsP.name_size o
    have hns := InsP.name_size o
    obtain ⟨a', rfl⟩ := Int.eq_ofNat_of_zero_le k3
    obtain ⟨q', rfl⟩ := Int.eq_ofNat_of_zero_le k5
    obtain ⟨n', rfl⟩ := Int.eq_ofNat_of_zero_le k7
    have hda := InsP.dec_len32 (n := a') (by omega)
    have hdq := InsP.dec_len32 (n := q') (by omega)
    generalize InsP.name o = nm at HN hnl hns
    go_enter Try.func15, Try.ntmps15
    have tok_bb : True := trivial
    have tok_bd : True := trivial
    go_wp2_with (first
        | ((have tok := tok_bb); clear tok tok_bb; (first | (with_reducible refine Hp.wpl_box sh ?_ ?_) | (with_reducible refine Hp.wpl_alloc Try.z_insn sh ?_ ?_) | (with_reducible refine Hp.wpl_alloc Try.z_bld sh ?_ ?_) | (with_reducible refine Hp.wpl_alloc Try.z_fn sh ?_ ?_)); exact rfl; clear sh; (try clear F); go_simp; intro bb w1 sh; have F := sh.facts; (try simp only [Hp.Facts, Hp.CellsAt, Nat.reduceAdd, List.cons_append, List.nil_append] at F))
        | ((have tok := tok_bd); clear tok tok_bd; (first | (with_reducible refine Hp.wpl_box sh ?_ ?_) | (with_reducible refine Hp.wpl_alloc Try.z_insn sh ?_ ?_) | (with_reducible refine Hp.wpl_alloc Try.z_bld sh ?_ ?_) | (with_reducible refine Hp.wpl_alloc Try.z_fn sh ?_ ?_)); exact rfl; clear sh; (try clear F); go_simp; intro bd w1 sh; have F := sh.facts; (try simp only [Hp.Facts, Hp.CellsAt, Nat.reduceAdd, List.cons_append, List.nil_append] at F))
        | ((with_reducible refine Hp.wpl_box sh ?_ ?_); exact rfl; clear sh; (try clear F); go_simp; intro b w1 sh; have F := sh.facts; (try simp only [Hp.Facts, Hp.CellsAt, Nat.reduceAdd, List.cons_append, List.nil_append] at F))
        | ((with_reducible refine Hp.wpl_alloc Try.z_insn sh ?_ ?_); exact rfl; clear sh; (try clear F); go_simp; intro b w1 sh; have F := sh.facts; (try simp only [Hp.Facts, Hp.CellsAt, Nat.reduceAdd, List.cons_append, List.nil_append] at F))
        | ((with_reducible refine Hp.wpl_alloc Try.z_bld sh ?_ ?_); exact rfl; clear sh; (try clear F); go_simp; intro b w1 sh; have F := sh.facts; (try simp only [Hp.Facts, Hp.CellsAt, Nat.reduceAdd, List.cons_append, List.nil_append] at F))
        | ((with_reducible refine Hp.wpl_alloc Try.z_fn sh ?_ ?_); exact rfl; clear sh; (try clear F); go_simp; intro b w1 sh; have F := sh.facts; (try simp only [Hp.Facts, Hp.CellsAt, Nat.reduceAdd, List.cons_append, List.nil_append] at F))
        | ((with_reducible refine Hp.atl_store ?_ ?_); exact rfl; (first | refine Hp.wp_store 0 sh rfl rfl rfl rfl (by kernel_rfl) (Nat.le_of_ble_eq_true rfl) rfl ?_ | refine Hp.wp_store 1 sh rfl rfl rfl rfl (by kernel_rfl) (Nat.le_of_ble_eq_true rfl) rfl ?_ | refine Hp.wp_store 2 sh rfl rfl rfl rfl (by kernel_rfl) (Nat.le_of_ble_eq_true rfl) rfl ?_ | refine Hp.wp_store 3 sh rfl rfl rfl rfl (by kernel_rfl) (Nat.le_of_ble_eq_true rfl) rfl ?_ | refine Hp.wp_store 4 sh rfl rfl rfl rfl (by kernel_rfl) (Nat.le_of_ble_eq_true rfl) rfl ?_ | refine Hp.wp_store 5 sh rfl rfl rfl rfl (by kernel_rfl) (Nat.le_of_ble_eq_true rfl) rfl ?_ | refine Hp.wp_store 6 sh rfl rfl rfl rfl (by kernel_rfl) (Nat.le_of_ble_eq_true rfl) rfl ?_); clear sh; (try clear F); go_simp; intro w1 sh; have F := sh.facts; (try simp only [Hp.Facts, Hp.CellsAt, Nat.reduceAdd, List.cons_append, List.nil_append] at F))
        | fail)
    go_fit (HG.out _)
    rintro e w1 ⟨rfl, hb⟩
    replace sh := sh.call hb; clear hb; (try clear F); have F := sh.facts; (try simp only [Hp.Facts, Hp.CellsAt, Nat.reduceAdd, List.cons_append, List.nil_append] at F)
    have tok_bx : True := trivial
    go_wp2_with (first
        | ((have tok := tok_bx); clear tok tok_bx; (first | (with_reducible refine Hp.wpl_box sh ?_ ?_) | (with_reducible refine Hp.wpl_alloc Try.z_insn sh ?_ ?_) | (with_reducible refine Hp.wpl_alloc Try.z_bld sh ?_ ?_) | (with_reducible refine Hp.wpl_alloc Try.z_fn sh ?_ ?_)); exact rfl; clear sh; (try clear F); go_simp; intro bx w1 sh; have F := sh.facts; (try simp only [Hp.Facts, Hp.CellsAt, Nat.reduceAdd, List.cons_append, List.nil_append] at F))
        | ((with_reducible refine Hp.wpl_box sh ?_ ?_); exact rfl; clear sh; (try clear F); go_simp; intro b w1 sh; have F := sh.facts; (try simp only [Hp.Facts, Hp.CellsAt, Nat.reduceAdd, List.cons_append, List.nil_append] at F))
        | ((with_reducible refine Hp.wpl_alloc Try.z_insn sh ?_ ?_); exact rfl; clear sh; (try clear F); go_simp; intro b w1 sh; have F := sh.facts; (try simp only [Hp.Facts, Hp.CellsAt, Nat.reduceAdd, List.cons_append, List.nil_append] at F))
        | ((with_reducible refine Hp.wpl_alloc Try.z_bld sh ?_ ?_); exact rfl; clear sh; (try clear F); go_simp; intro b w1 sh; have F := sh.facts; (try simp only [Hp.Facts, Hp.CellsAt, Nat.reduceAdd, List.cons_append, List.nil_append] at F))
        | ((with_reducible refine Hp.wpl_alloc Try.z_fn sh ?_ ?_); exact rfl; clear sh; (try clear F); go_simp; intro b w1 sh; have F := sh.facts; (try simp only [Hp.Facts, Hp.CellsAt, Nat.reduceAdd, List.cons_append, List.nil_append] at F))
        | ((with_reducible refine Hp.atl_store ?_ ?_); exact rfl; (first | refine Hp.wp_store 0 sh rfl rfl rfl rfl (by kernel_rfl) (Nat.le_of_ble_eq_true rfl) rfl ?_ | refine Hp.wp_store 1 sh rfl rfl rfl rfl (by kernel_rfl) (Nat.le_of_ble_eq_true rfl) rfl ?_ | refine Hp.wp_store 2 sh rfl rfl rfl rfl (by kernel_rfl) (Nat.le_of_ble_eq_true rfl) rfl ?_ | refine Hp.wp_store 3 sh rfl rfl rfl rfl (by kernel_rfl) (Nat.le_of_ble_eq_true rfl) rfl ?_ | refine Hp.wp_store 4 sh rfl rfl rfl rfl (by kernel_rfl) (Nat.le_of_ble_eq_true rfl) rfl ?_ | refine Hp.wp_store 5 sh rfl rfl rfl rfl (by kernel_rfl) (Nat.le_of_ble_eq_true rfl) rfl ?_ | refine Hp.wp_store 6 sh rfl rfl rfl rfl (by kernel_rfl) (Nat.le_of_ble_eq_true rfl) rfl ?_); clear sh; (try clear F); go_simp; intro w1 sh; have F := sh.facts; (try simp only [Hp.Facts, Hp.CellsAt, Nat.reduceAdd, List.cons_append, List.nil_append] at F))
        | fail)
    go_fit (HN.out _)
    rintro e w1 ⟨rfl, hb⟩
    replace sh := sh.call hb; clear hb; (try clear F); have F := sh.facts; (try simp only [Hp.Facts, Hp.CellsAt, Nat.reduceAdd, List.cons_append, List.nil_append] at F)
    go_wp2_with (first
        | ((with_reducible refine Hp.wpl_box sh ?_ ?_); exact rfl; clear sh; (try clear F); go_simp; intro b w1 sh; have F := sh.facts; (try simp only [Hp.Facts, Hp.CellsAt, Nat.reduceAdd, List.cons_append, List.nil_append] at F))
        | ((with_reducible refine Hp.wpl_alloc Try.z_insn sh ?_ ?_); exact rfl; clear sh; (try clear F); go_simp; intro b w1 sh; have F := sh.facts; (try simp only [Hp.Facts, Hp.CellsAt, Nat.reduceAdd, List.cons_append, List.nil_append] at F))
        | ((with_reducible refine Hp.wpl_alloc Try.z_bld sh ?_ ?_); exact rfl; clear sh; (try clear F); go_simp; intro b w1 sh; have F := sh.facts; (try simp only [Hp.Facts, Hp.CellsAt, Nat.reduceAdd, List.cons_append, List.nil_append] at F))
        | ((with_reducible refine Hp.wpl_alloc Try.z_fn sh ?_ ?_); exact rfl; clear sh; (try clear F); go_simp; intro b w1 sh; have F := sh.facts; (try simp only [Hp.Facts, Hp.CellsAt, Nat.reduceAdd, List.cons_append, List.nil_append] at F))
        | ((with_reducible refine Hp.atl_store ?_ ?_); exact rfl; (first | refine Hp.wp_store 0 sh rfl rfl rfl rfl (by kernel_rfl) (Nat.le_of_ble_eq_true rfl) rfl ?_ | refine Hp.wp_store 1 sh rfl rfl rfl rfl (by kernel_rfl) (Nat.le_of_ble_eq_true rfl) rfl ?_ | refine Hp.wp_store 2 sh rfl rfl rfl rfl (by kernel_rfl) (Nat.le_of_ble_eq_true rfl) rfl ?_ | refine Hp.wp_store 3 sh rfl rfl rfl rfl (by kernel_rfl) (Nat.le_of_ble_eq_true rfl) rfl ?_ | refine Hp.wp_store 4 sh rfl rfl rfl rfl (by kernel_rfl) (Nat.le_of_ble_eq_true rfl) rfl ?_ | refine Hp.wp_store 5 sh rfl rfl rfl rfl (by kernel_rfl) (Nat.le_of_ble_eq_true rfl) rfl ?_ | refine Hp.wp_store 6 sh rfl rfl rfl rfl (by kernel_rfl) (Nat.le_of_ble_eq_true rfl) rfl ?_); clear sh; (try clear F); go_simp; intro w1 sh; have F := sh.facts; (try simp only [Hp.Facts, Hp.CellsAt, Nat.reduceAdd, List.cons_append, List.nil_append] at F))
        | fail)
    have st := InsP.St.start sh
    clear sh F
    go_fit (bld_str _ bb [] nm _ st.bld (by simp) (by omega))
    rintro e w2 ⟨rfl, ht⟩
    replace st := st.step ht
    clear ht
    have hf := st.facts
    dsimp only at hf
    go_wp2_with fail
    go_fit (ilay _ bb bd ⟨#[32, 114]⟩ a' _ _ (by omega) (by simp only [List.length_append, List.length_nil, List.length_cons]; omega) (by decide) st.bld st.at_)
    rintro e w2 ⟨rfl, ht⟩
    replace st := st.step ht
    clear ht hf
    have hf := st.facts
    dsimp only at hf
    go_wp2_with fail
    go_fit (ilay _ bb bd ⟨#[32, 114]⟩ q' _ _ (by omega) (by simp only [List.length_append, List.length_nil, List.length_cons]; omega) (by decide) st.bld st.at_)
    rintro e w2 ⟨rfl, ht⟩
    replace st := st.step ht
    clear ht hf
    have hf := st.facts
    dsimp only at hf
    go_wp2_with fail
    go_fit (ilay _ bb bd ⟨#[32]⟩ n' _ _ (by omega) (by simp only [List.length_append, List.length_nil, List.length_cons]; omega) (by decide) st.bld st.at_)
    rintro e w2 ⟨rfl, ht⟩
    replace st := st.step ht
    clear ht hf
    go_wp2_with fail
    go_fit (bld_string _ _ _ _ st.bld)
    rintro e w3 ⟨rfl, ht2⟩
    go_wp2
    go_ret
    refine ⟨?_, (st.step ht2).below⟩
    simp [InsP.nat]
  · have hrb : (r != 0) = true := by rw [bne_iff_ne]; exact hr
    rw [if_neg hr]
    clear hok
    obtain ⟨z', rfl⟩ := Int.eq_ofNat_of_zero_le hz.1
    go_enter Try.func15, Try.ntmps15
    have tok_bb : True := trivial
    have tok_bd : True := trivial
    go_wp2_with (first
        | ((have tok := tok_bb); clear tok tok_bb; (first | (with_reducible refine Hp.wpl_box sh ?_ ?_) | (with_reducible refine Hp.wpl_alloc Try.z_insn sh ?_ ?_) | (with_reducible refine Hp.wpl_alloc Try.z_bld sh ?_ ?_) | (with_reducible refine Hp.wpl_alloc Try.z_fn sh ?_ ?_)); exact rfl; clear sh; (try clear F); go_simp; intro bb w1 sh; have F := sh.facts; (try simp only [Hp.Facts, Hp.CellsAt, Nat.reduceAdd, List.cons_append, List.nil_append] at F))
        | ((have tok := tok_bd); clear tok tok_bd; (first | (with_reducible refine Hp.wpl_box sh ?_ ?_) | (with_reducible refine Hp.wpl_alloc Try.z_insn sh ?_ ?_) | (with_reducible refine Hp.wpl_alloc Try.z_bld sh ?_ ?_) | (with_reducible refine Hp.wpl_alloc Try.z_fn sh ?_ ?_)); exact rfl; clear sh; (try clear F); go_simp; intro bd w1 sh; have F := sh.facts; (try simp only [Hp.Facts, Hp.CellsAt, Nat.reduceAdd, List.cons_append, List.nil_append] at F))
        | ((with_reducible refine Hp.wpl_box sh ?_ ?_); exact rfl; clear sh; (try clear F); go_simp; intro b w1 sh; have F := sh.facts; (try simp only [Hp.Facts, Hp.CellsAt, Nat.reduceAdd, List.cons_append, List.nil_append] at F))
        | ((with_reducible refine Hp.wpl_alloc Try.z_insn sh ?_ ?_); exact rfl; clear sh; (try clear F); go_simp; intro b w1 sh; have F := sh.facts; (try simp only [Hp.Facts, Hp.CellsAt, Nat.reduceAdd, List.cons_append, List.nil_append] at F))
        | ((with_reducible refine Hp.wpl_alloc Try.z_bld sh ?_ ?_); exact rfl; clear sh; (try clear F); go_simp; intro b w1 sh; have F := sh.facts; (try simp only [Hp.Facts, Hp.CellsAt, Nat.reduceAdd, List.cons_append, List.nil_append] at F))
        | ((with_reducible refine Hp.wpl_alloc Try.z_fn sh ?_ ?_); exact rfl; clear sh; (try clear F); go_simp; intro b w1 sh; have F := sh.facts; (try simp only [Hp.Facts, Hp.CellsAt, Nat.reduceAdd, List.cons_append, List.nil_append] at F))
        | ((with_reducible refine Hp.atl_store ?_ ?_); exact rfl; (first | refine Hp.wp_store 0 sh rfl rfl rfl rfl (by kernel_rfl) (Nat.le_of_ble_eq_true rfl) rfl ?_ | refine Hp.wp_store 1 sh rfl rfl rfl rfl (by kernel_rfl) (Nat.le_of_ble_eq_true rfl) rfl ?_ | refine Hp.wp_store 2 sh rfl rfl rfl rfl (by kernel_rfl) (Nat.le_of_ble_eq_true rfl) rfl ?_ | refine Hp.wp_store 3 sh rfl rfl rfl rfl (by kernel_rfl) (Nat.le_of_ble_eq_true rfl) rfl ?_ | refine Hp.wp_store 4 sh rfl rfl rfl rfl (by kernel_rfl) (Nat.le_of_ble_eq_true rfl) rfl ?_ | refine Hp.wp_store 5 sh rfl rfl rfl rfl (by kernel_rfl) (Nat.le_of_ble_eq_true rfl) rfl ?_ | refine Hp.wp_store 6 sh rfl rfl rfl rfl (by kernel_rfl) (Nat.le_of_ble_eq_true rfl) rfl ?_); clear sh; (try clear F); go_simp; intro w1 sh; have F := sh.facts; (try simp only [Hp.Facts, Hp.CellsAt, Nat.reduceAdd, List.cons_append, List.nil_append] at F))
        | fail)
    go_fit (HG.out _)
    rintro e w1 ⟨rfl, hb⟩
    replace sh := sh.call hb; clear hb; (try clear F); have F := sh.facts; (try simp only [Hp.Facts, Hp.CellsAt, Nat.reduceAdd, List.cons_append, List.nil_append] at F)
    have tok_bx : True := trivial
    go_wp2_with (first
        | ((have tok := tok_bx); clear tok tok_bx; (first | (with_reducible refine Hp.wpl_box sh ?_ ?_) | (with_reducible refine Hp.wpl_alloc Try.z_insn sh ?_ ?_) | (with_reducible refine Hp.wpl_alloc Try.z_bld sh ?_ ?_) | (with_reducible refine Hp.wpl_alloc Try.z_fn sh ?_ ?_)); exact rfl; clear sh; (try clear F); go_simp; intro bx w1 sh; have F := sh.facts; (try simp only [Hp.Facts, Hp.CellsAt, Nat.reduceAdd, List.cons_append, List.nil_append] at F))
        | ((with_reducible refine Hp.wpl_box sh ?_ ?_); exact rfl; clear sh; (try clear F); go_simp; intro b w1 sh; have F := sh.facts; (try simp only [Hp.Facts, Hp.CellsAt, Nat.reduceAdd, List.cons_append, List.nil_append] at F))
        | ((with_reducible refine Hp.wpl_alloc Try.z_insn sh ?_ ?_); exact rfl; clear sh; (try clear F); go_simp; intro b w1 sh; have F := sh.facts; (try simp only [Hp.Facts, Hp.CellsAt, Nat.reduceAdd, List.cons_append, List.nil_append] at F))
        | ((with_reducible refine Hp.wpl_alloc Try.z_bld sh ?_ ?_); exact rfl; clear sh; (try clear F); go_simp; intro b w1 sh; have F := sh.facts; (try simp only [Hp.Facts, Hp.CellsAt, Nat.reduceAdd, List.cons_append, List.nil_append] at F))
        | ((with_reducible refine Hp.wpl_alloc Try.z_fn sh ?_ ?_); exact rfl; clear sh; (try clear F); go_simp; intro b w1 sh; have F := sh.facts; (try simp only [Hp.Facts, Hp.CellsAt, Nat.reduceAdd, List.cons_append, List.nil_append] at F))
        | ((with_reducible refine Hp.atl_store ?_ ?_); exact rfl; (first | refine Hp.wp_store 0 sh rfl rfl rfl rfl (by kernel_rfl) (Nat.le_of_ble_eq_true rfl) rfl ?_ | refine Hp.wp_store 1 sh rfl rfl rfl rfl (by kernel_rfl) (Nat.le_of_ble_eq_true rfl) rfl ?_ | refine Hp.wp_store 2 sh rfl rfl rfl rfl (by kernel_rfl) (Nat.le_of_ble_eq_true rfl) rfl ?_ | refine Hp.wp_store 3 sh rfl rfl rfl rfl (by kernel_rfl) (Nat.le_of_ble_eq_true rfl) rfl ?_ | refine Hp.wp_store 4 sh rfl rfl rfl rfl (by kernel_rfl) (Nat.le_of_ble_eq_true rfl) rfl ?_ | refine Hp.wp_store 5 sh rfl rfl rfl rfl (by kernel_rfl) (Nat.le_of_ble_eq_true rfl) rfl ?_ | refine Hp.wp_store 6 sh rfl rfl rfl rfl (by kernel_rfl) (Nat.le_of_ble_eq_true rfl) rfl ?_); clear sh; (try clear F); go_simp; intro w1 sh; have F := sh.facts; (try simp only [Hp.Facts, Hp.CellsAt, Nat.reduceAdd, List.cons_append, List.nil_append] at F))
        | fail)
    have st := InsP.St.start sh
    clear sh F
    go_fit (ilay _ bb bd ⟨#[63, 32]⟩ z' [] _ (by omega) (by simp) (by decide) st.bld st.at_)
    rintro e w2 ⟨rfl, ht⟩
    replace st := st.step ht
    go_wp2_with fail
    go_fit (bld_string _ _ _ _ st.bld)
    rintro e w3 ⟨rfl, ht2⟩
    go_wp2
    go_ret
    exact ⟨rfl, (st.step ht2).below⟩

theorem str_app (a b : List UInt8) : (⟨a.toArray⟩ : ByteArray) ++ ⟨b.toArray⟩ = ⟨(a ++ b).toArray⟩ := by
  apply ByteArray.ext
  simp
theorem InsP.nat_size {z : Int} (h : z ≤ 4294967295) : (⟨(InsP.nat z).toArray⟩ : ByteArray).size ≤ 11 := by
  show (InsP.nat z).toArray.size ≤ 11
  rw [List.size_toArray]
  exact InsP.dec_len32 (by omega)
theorem wrap32 {z : Int} (h : 0 ≤ z) (h2 : z ≤ 4294967295) : IntKind.u32.wrap z = z := by
  unfold IntKind.wrap
  simp [IntKind.bits, IntKind.signed]
  omega
theorem InsP.nat_le {z : Int} (h : 0 ≤ z) (h2 : z ≤ 9) : InsP.nat z = [UInt8.ofNat (48 + z.toNat)] := InsP.dec_le (by omega)
theorem InsP.nat_gt {z : Int} (h : 9 < z) : InsP.nat z = InsP.nat (z / 10) ++ InsP.nat (z % 10) := by
  unfold InsP.nat
  rw [InsP.dec_gt (n := z.toNat) (by omega), InsP.dec_le (n := (z % 10).toNat) (by omega), show (z / 10).toNat = z.toNat / 10 by omega, show (z % 10).toNat = z.toNat % 10 by omega]

set_option maxHeartbeats 4000000 in
set_option maxRecDepth 100000 in
theorem idigitsR : ∀ (m : Nat) (z : Int) (w : World), z.toNat = m → 0 ≤ z ∧ z ≤ 4294967295 → Calls Try.prog 30 #[.int .u32 z] w fun e w' => e = .returned (.string ⟨(InsP.nat z).toArray⟩) ∧ Below w.heap.size w w' := by
  intro m
  induction m using Nat.strongRecOn with
  | ind m ih =>
    intro z w hm hz
    by_cases h9 : 9 < z
    · have H1 := Lib.hid (fun W => ih (z / 10).toNat (by omega) (z / 10) W rfl (by omega))
      have H2 := Lib.hid (fun W => ih (z % 10).toNat (by omega) (z % 10) W rfl (by omega))
      rw [InsP.nat_gt h9, ← str_app]
      have s1 := InsP.nat_size (z := z / 10) (by omega)
      have s2 := InsP.nat_size (z := z % 10) (by omega)
      generalize (⟨(InsP.nat (z / 10)).toArray⟩ : ByteArray) = b1 at *
      generalize (⟨(InsP.nat (z % 10)).toArray⟩ : ByteArray) = b2 at *
      have hc : ¬ 9223372036854775807 < b1.size + b2.size := by omega
      have sh : Hp.Sh w w [] (fun _ => True) := Hp.Sh.start (fun _ _ => trivial)
      have hlt : ¬ z < 10 := by omega
      clear ih
      go_enter Try.func30, Try.ntmps30
      go_wp2_with (first
          | ((with_reducible refine Hp.wpl_box sh ?_ ?_); exact rfl; clear sh; (try clear F); go_simp; intro b w1 sh; have F := sh.facts; (try simp only [Hp.Facts, Hp.CellsAt, Nat.reduceAdd, List.cons_append, List.nil_append] at F))
          | ((with_reducible refine Hp.wpl_alloc Try.z_insn sh ?_ ?_); exact rfl; clear sh; (try clear F); go_simp; intro b w1 sh; have F := sh.facts; (try simp only [Hp.Facts, Hp.CellsAt, Nat.reduceAdd, List.cons_append, List.nil_append] at F))
          | ((with_reducible refine Hp.wpl_alloc Try.z_bld sh ?_ ?_); exact rfl; clear sh; (try clear F); go_simp; intro b w1 sh; have F := sh.facts; (try simp only [Hp.Facts, Hp.CellsAt, Nat.reduceAdd, List.cons_append, List.nil_append] at F))
          | ((with_reducible refine Hp.wpl_alloc Try.z_fn sh ?_ ?_); exact rfl; clear sh; (try clear F); go_simp; intro b w1 sh; have F := sh.facts; (try simp only [Hp.Facts, Hp.CellsAt, Nat.reduceAdd, List.cons_append, List.nil_append] at F))
          | ((with_reducible refine Hp.atl_store ?_ ?_); exact rfl; (first | refine Hp.wp_store 0 sh rfl rfl rfl rfl (by kernel_rfl) (Nat.le_of_ble_eq_true rfl) rfl ?_ | refine Hp.wp_store 1 sh rfl rfl rfl rfl (by kernel_rfl) (Nat.le_of_ble_eq_true rfl) rfl ?_ | refine Hp.wp_store 2 sh rfl rfl rfl rfl (by kernel_rfl) (Nat.le_of_ble_eq_true rfl) rfl ?_ | refine Hp.wp_store 3 sh rfl rfl rfl rfl (by kernel_rfl) (Nat.le_of_ble_eq_true rfl) rfl ?_ | refine Hp.wp_store 4 sh rfl rfl rfl rfl (by kernel_rfl) (Nat.le_of_ble_eq_true rfl) rfl ?_ | refine Hp.wp_store 5 sh rfl rfl rfl rfl (by kernel_rfl) (Nat.le_of_ble_eq_true rfl) rfl ?_ | refine Hp.wp_store 6 sh rfl rfl rfl rfl (by kernel_rfl) (Nat.le_of_ble_eq_true rfl) rfl ?_); clear sh; (try clear F); go_simp; intro w1 sh; have F := sh.facts; (try simp only [Hp.Facts, Hp.CellsAt, Nat.reduceAdd, List.cons_append, List.nil_append] at F))
          | fail)
      go_fit (H1.out _)
      rintro e w1 ⟨rfl, hb⟩
      replace sh := sh.call hb; clear hb; (try clear F); have F := sh.facts; (try simp only [Hp.Facts, Hp.CellsAt, Nat.reduceAdd, List.cons_append, List.nil_append] at F)
      go_wp2_with (first
          | ((with_reducible refine Hp.wpl_box sh ?_ ?_); exact rfl; clear sh; (try clear F); go_simp; intro b w1 sh; have F := sh.facts; (try simp only [Hp.Facts, Hp.CellsAt, Nat.reduceAdd, List.cons_append, List.nil_append] at F))
          | ((with_reducible refine Hp.wpl_alloc Try.z_insn sh ?_ ?_); exact rfl; clear sh; (try clear F); go_simp; intro b w1 sh; have F := sh.facts; (try simp only [Hp.Facts, Hp.CellsAt, Nat.reduceAdd, List.cons_append, List.nil_append] at F))
          | ((with_reducible refine Hp.wpl_alloc Try.z_bld sh ?_ ?_); exact rfl; clear sh; (try clear F); go_simp; intro b w1 sh; have F := sh.facts; (try simp only [Hp.Facts, Hp.CellsAt, Nat.reduceAdd, List.cons_append, List.nil_append] at F))
          | ((with_reducible refine Hp.wpl_alloc Try.z_fn sh ?_ ?_); exact rfl; clear sh; (try clear F); go_simp; intro b w1 sh; have F := sh.facts; (try simp only [Hp.Facts, Hp.CellsAt, Nat.reduceAdd, List.cons_append, List.nil_append] at F))
          | ((with_reducible refine Hp.atl_store ?_ ?_); exact rfl; (first | refine Hp.wp_store 0 sh rfl rfl rfl rfl (by kernel_rfl) (Nat.le_of_ble_eq_true rfl) rfl ?_ | refine Hp.wp_store 1 sh rfl rfl rfl rfl (by kernel_rfl) (Nat.le_of_ble_eq_true rfl) rfl ?_ | refine Hp.wp_store 2 sh rfl rfl rfl rfl (by kernel_rfl) (Nat.le_of_ble_eq_true rfl) rfl ?_ | refine Hp.wp_store 3 sh rfl rfl rfl rfl (by kernel_rfl) (Nat.le_of_ble_eq_true rfl) rfl ?_ | refine Hp.wp_store 4 sh rfl rfl rfl rfl (by kernel_rfl) (Nat.le_of_ble_eq_true rfl) rfl ?_ | refine Hp.wp_store 5 sh rfl rfl rfl rfl (by kernel_rfl) (Nat.le_of_ble_eq_true rfl) rfl ?_ | refine Hp.wp_store 6 sh rfl rfl rfl rfl (by kernel_rfl) (Nat.le_of_ble_eq_true rfl) rfl ?_); clear sh; (try clear F); go_simp; intro w1 sh; have F := sh.facts; (try simp only [Hp.Facts, Hp.CellsAt, Nat.reduceAdd, List.cons_append, List.nil_append] at F))
          | fail)
      go_fit (H2.out _)
      rintro e w1 ⟨rfl, hb⟩
      replace sh := sh.call hb; clear hb; (try clear F); have F := sh.facts; (try simp only [Hp.Facts, Hp.CellsAt, Nat.reduceAdd, List.cons_append, List.nil_append] at F)
      go_wp2_with (first
          | ((with_reducible refine Hp.wpl_box sh ?_ ?_); exact rfl; clear sh; (try clear F); go_simp; intro b w1 sh; have F := sh.facts; (try simp only [Hp.Facts, Hp.CellsAt, Nat.reduceAdd, List.cons_append, List.nil_append] at F))
          | ((with_reducible refine Hp.wpl_alloc Try.z_insn sh ?_ ?_); exact rfl; clear sh; (try clear F); go_simp; intro b w1 sh; have F := sh.facts; (try simp only [Hp.Facts, Hp.CellsAt, Nat.reduceAdd, List.cons_append, List.nil_append] at F))
          | ((with_reducible refine Hp.wpl_alloc Try.z_bld sh ?_ ?_); exact rfl; clear sh; (try clear F); go_simp; intro b w1 sh; have F := sh.facts; (try simp only [Hp.Facts, Hp.CellsAt, Nat.reduceAdd, List.cons_append, List.nil_append] at F))
          | ((with_reducible refine Hp.wpl_alloc Try.z_fn sh ?_ ?_); exact rfl; clear sh; (try clear F); go_simp; intro b w1 sh; have F := sh.facts; (try simp only [Hp.Facts, Hp.CellsAt, Nat.reduceAdd, List.cons_append, List.nil_append] at F))
          | ((with_reducible refine Hp.atl_store ?_ ?_); exact rfl; (first | refine Hp.wp_store 0 sh rfl rfl rfl rfl (by kernel_rfl) (Nat.le_of_ble_eq_true rfl) rfl ?_ | refine Hp.wp_store 1 sh rfl rfl rfl rfl (by kernel_rfl) (Nat.le_of_ble_eq_true rfl) rfl ?_ | refine Hp.wp_store 2 sh rfl rfl rfl rfl (by kernel_rfl) (Nat.le_of_ble_eq_true rfl) rfl ?_ | refine Hp.wp_store 3 sh rfl rfl rfl rfl (by kernel_rfl) (Nat.le_of_ble_eq_true rfl) rfl ?_ | refine Hp.wp_store 4 sh rfl rfl rfl rfl (by kernel_rfl) (Nat.le_of_ble_eq_true rfl) rfl ?_ | refine Hp.wp_store 5 sh rfl rfl rfl rfl (by kernel_rfl) (Nat.le_of_ble_eq_true rfl) rfl ?_ | refine Hp.wp_store 6 sh rfl rfl rfl rfl (by kernel_rfl) (Nat.le_of_ble_eq_true rfl) rfl ?_); clear sh; (try clear F); go_simp; intro w1 sh; have F := sh.facts; (try simp only [Hp.Facts, Hp.CellsAt, Nat.reduceAdd, List.cons_append, List.nil_append] at F))
          | fail)
      go_ret
      exact ⟨rfl, sh.below⟩
    · clear ih hm
      obtain rfl | rfl | rfl | rfl | rfl | rfl | rfl | rfl | rfl | rfl : z = 0 ∨ z = 1 ∨ z = 2 ∨ z = 3 ∨ z = 4 ∨ z = 5 ∨ z = 6 ∨ z = 7 ∨ z = 8 ∨ z = 9 := by omega
      all_goals rw [InsP.nat_le (by omega) (by omega)]
      all_goals clear h9 hz
      all_goals (go_enter Try.func30, Try.ntmps30)
      all_goals go_wp2
      all_goals go_ret
      all_goals exact ⟨rfl, Below.refl _ _⟩

set_option maxHeartbeats 4000000 in
set_option maxRecDepth 100000 in
theorem ishowR (z : Int) (w : World) (hz : 0 ≤ z ∧ z ≤ 4294967295) :
    Calls Try.prog 16 #[.int .u32 z] w fun e w' => e = .returned (.string ⟨(InsP.show_ z).toArray⟩) ∧ Below w.heap.size w w' := by
  have sh : Hp.Sh w w [] (fun _ => True) := Hp.Sh.start (fun _ _ => trivial)
  have HG := Lib.hid (fun W => igetR z W hz)
  have hok := @InsP.get_ok z
  unfold InsP.show_
  generalize InsP.get z = r at HG hok
  obtain ⟨⟨o, a, q, n⟩, r⟩ := r
  simp only [InsP.iv] at HG
  dsimp only at hok ⊢
  by_cases hr : r = 0
  · subst hr
    obtain ⟨k1, k2, k3, k4, k5, k6, k7, k8⟩ := hok rfl
    clear hok
    have HN := Lib.hid (fun W => inameR o W (by omega))
    have HA := Lib.hid (fun W => idigitsR _ a W rfl (by omega))
    have HQ := Lib.hid (fun W => idigitsR _ q W rfl (by omega))
    have HM := Lib.hid (fun W => idigitsR _ n W rfl (by omega))
    rw [if_pos rfl]
    have hs : (⟨((InsP.name o).data.toList ++ [32, 114] ++ InsP.nat a ++ [32, 114] ++ InsP.nat q ++ [32] ++ InsP.nat n).toArray⟩ : ByteArray) = InsP.name o ++ ⟨#[32, 114]⟩ ++ ⟨(InsP.nat a).toArray⟩ ++ ⟨#[32, 114]⟩ ++ ⟨(InsP.nat q).toArray⟩ ++ ⟨#[32]⟩ ++ ⟨(InsP.nat n).toArray⟩ := by
      apply ByteArray.ext
      simp
    rw [hs]
    clear hs
    have s0 := InsP.name_size o
    have s1 := InsP.nat_size (z := a) (by omega)
    have s2 := InsP.nat_size (z := q) (by omega)
    have s3 := InsP.nat_size (z := n) (by omega)
    generalize InsP.name o = nm at HN s0
    generalize (⟨(InsP.nat a).toArray⟩ : ByteArray) = la at HA s1
    generalize (⟨(InsP.nat q).toArray⟩ : ByteArray) = lq at HQ s2
    generalize (⟨(InsP.nat n).toArray⟩ : ByteArray) = ln at HM s3
    have f1 : ¬ 9223372036854775807 < nm.size + 2 := by omega
    have f2 : ¬ 9223372036854775807 < nm.size + 2 + la.size := by omega
    have f3 : ¬ 9223372036854775807 < nm.size + 2 + la.size + 2 := by omega
    have f4 : ¬ 9223372036854775807 < nm.size + 2 + la.size + 2 + lq.size := by omega
    have f5 : ¬ 9223372036854775807 < nm.size + 2 + la.size + 2 + lq.size + 1 := by omega
    have f6 : ¬ 9223372036854775807 < nm.size + 2 + la.size + 2 + lq.size + 1 + ln.size := by omega
    have wa := wrap32 (z := a) (by omega) (by omega)
    have wq := wrap32 (z := q) (by omega) (by omega)
    have wn := wrap32 (z := n) (by omega) (by omega)
    go_enter Try.func16, Try.ntmps16
    have tok_bx : True := trivial
    go_wp2_with (first
        | ((have tok := tok_bx); clear tok tok_bx; (first | (with_reducible refine Hp.wpl_box sh ?_ ?_) | (with_reducible refine Hp.wpl_alloc Try.z_insn sh ?_ ?_) | (with_reducible refine Hp.wpl_alloc Try.z_bld sh ?_ ?_) | (with_reducible refine Hp.wpl_alloc Try.z_fn sh ?_ ?_)); exact rfl; clear sh; (try clear F); go_simp; intro bx w1 sh; have F := sh.facts; (try simp only [Hp.Facts, Hp.CellsAt, Nat.reduceAdd, List.cons_append, List.nil_append] at F))
        | ((with_reducible refine Hp.wpl_box sh ?_ ?_); exact rfl; clear sh; (try clear F); go_simp; intro b w1 sh; have F := sh.facts; (try simp only [Hp.Facts, Hp.CellsAt, Nat.reduceAdd, List.cons_append, List.nil_append] at F))
        | ((with_reducible refine Hp.wpl_alloc Try.z_insn sh ?_ ?_); exact rfl; clear sh; (try clear F); go_simp; intro b w1 sh; have F := sh.facts; (try simp only [Hp.Facts, Hp.CellsAt, Nat.reduceAdd, List.cons_append, List.nil_append] at F))
        | ((with_reducible refine Hp.wpl_alloc Try.z_bld sh ?_ ?_); exact rfl; clear sh; (try clear F); go_simp; intro b w1 sh; have F := sh.facts; (try simp only [Hp.Facts, Hp.CellsAt, Nat.reduceAdd, List.cons_append, List.nil_append] at F))
        | ((with_reducible refine Hp.wpl_alloc Try.z_fn sh ?_ ?_); exact rfl; clear sh; (try clear F); go_simp; intro b w1 sh; have F := sh.facts; (try simp only [Hp.Facts, Hp.CellsAt, Nat.reduceAdd, List.cons_append, List.nil_append] at F))
        | ((with_reducible refine Hp.atl_store ?_ ?_); exact rfl; (first | refine Hp.wp_store 0 sh rfl rfl rfl rfl (by kernel_rfl) (Nat.le_of_ble_eq_true rfl) rfl ?_ | refine Hp.wp_store 1 sh rfl rfl rfl rfl (by kernel_rfl) (Nat.le_of_ble_eq_true rfl) rfl ?_ | refine Hp.wp_store 2 sh rfl rfl rfl rfl (by kernel_rfl) (Nat.le_of_ble_eq_true rfl) rfl ?_ | refine Hp.wp_store 3 sh rfl rfl rfl rfl (by kernel_rfl) (Nat.le_of_ble_eq_true rfl) rfl ?_ | refine Hp.wp_store 4 sh rfl rfl rfl rfl (by kernel_rfl) (Nat.le_of_ble_eq_true rfl) rfl ?_ | refine Hp.wp_store 5 sh rfl rfl rfl rfl (by kernel_rfl) (Nat.le_of_ble_eq_true rfl) rfl ?_ | refine Hp.wp_store 6 sh rfl rfl rfl rfl (by kernel_rfl) (Nat.le_of_ble_eq_true rfl) rfl ?_); clear sh; (try clear F); go_simp; intro w1 sh; have F := sh.facts; (try simp only [Hp.Facts, Hp.CellsAt, Nat.reduceAdd, List.cons_append, List.nil_append] at F))
        | fail)
    go_fit (HG.out _)
    rintro e w1 ⟨rfl, hb⟩
    replace sh := sh.call hb; clear hb; (try clear F); have F := sh.facts; (try simp only [Hp.Facts, Hp.CellsAt, Nat.reduceAdd, List.cons_append, List.nil_append] at F)
    go_wp2_with (first
        | ((with_reducible refine Hp.wpl_box sh ?_ ?_); exact rfl; clear sh; (try clear F); go_simp; intro b w1 sh; have F := sh.facts; (try simp only [Hp.Facts, Hp.CellsAt, Nat.reduceAdd, List.cons_append, List.nil_append] at F))
        | ((with_reducible refine Hp.wpl_alloc Try.z_insn sh ?_ ?_); exact rfl; clear sh; (try clear F); go_simp; intro b w1 sh; have F := sh.facts; (try simp only [Hp.Facts, Hp.CellsAt, Nat.reduceAdd, List.cons_append, List.nil_append] at F))
        | ((with_reducible refine Hp.wpl_alloc Try.z_bld sh ?_ ?_); exact rfl; clear sh; (try clear F); go_simp; intro b w1 sh; have F := sh.facts; (try simp only [Hp.Facts, Hp.CellsAt, Nat.reduceAdd, List.cons_append, List.nil_append] at F))
        | ((with_reducible refine Hp.wpl_alloc Try.z_fn sh ?_ ?_); exact rfl; clear sh; (try clear F); go_simp; intro b w1 sh; have F := sh.facts; (try simp only [Hp.Facts, Hp.CellsAt, Nat.reduceAdd, List.cons_append, List.nil_append] at F))
        | ((with_reducible refine Hp.atl_store ?_ ?_); exact rfl; (first | refine Hp.wp_store 0 sh rfl rfl rfl rfl (by kernel_rfl) (Nat.le_of_ble_eq_true rfl) rfl ?_ | refine Hp.wp_store 1 sh rfl rfl rfl rfl (by kernel_rfl) (Nat.le_of_ble_eq_true rfl) rfl ?_ | refine Hp.wp_store 2 sh rfl rfl rfl rfl (by kernel_rfl) (Nat.le_of_ble_eq_true rfl) rfl ?_ | refine Hp.wp_store 3 sh rfl rfl rfl rfl (by kernel_rfl) (Nat.le_of_ble_eq_true rfl) rfl ?_ | refine Hp.wp_store 4 sh rfl rfl rfl rfl (by kernel_rfl) (Nat.le_of_ble_eq_true rfl) rfl ?_ | refine Hp.wp_store 5 sh rfl rfl rfl rfl (by kernel_rfl) (Nat.le_of_ble_eq_true rfl) rfl ?_ | refine Hp.wp_store 6 sh rfl rfl rfl rfl (by kernel_rfl) (Nat.le_of_ble_eq_true rfl) rfl ?_); clear sh; (try clear F); go_simp; intro w1 sh; have F := sh.facts; (try simp only [Hp.Facts, Hp.CellsAt, Nat.reduceAdd, List.cons_append, List.nil_append] at F))
        | fail)
    refine Hp.region_sh (by kernel_rfl) sh ?_; clear sh F; intro w1 sh; have F := sh.facts; (try simp only [Hp.Facts, Hp.CellsAt, Nat.reduceAdd, List.cons_append, List.nil_append] at F)
    refine Hp.take (i := 0) (oi := ⟨some 15, Op.fieldAddr 23 (Operand.tmp 3) 0, _, _, _, none⟩) (v := ?_) rfl (by kernel_rfl) (by kernel_rfl) (by kernel_rfl) (fun _ _ _ h => h) (by rfl) ⟨sh.facts, sh.data⟩ ?_ ?_
    rotate_left
    · intro w' hh
      clear hh; go_simp
      try with_reducible rfl
    (try simp only [Act.put, List.setIfInBounds_toArray, List.set_cons_zero, List.set_cons_succ])
    refine Hp.take (i := 1) (oi := ⟨some 16, Op.load 3 (Operand.tmp 15), _, _, _, none⟩) (v := ?_) rfl (by kernel_rfl) (by kernel_rfl) (by kernel_rfl) (fun _ _ _ h => h) (by rfl) ⟨sh.facts, sh.data⟩ ?_ ?_
    rotate_left
    · intro w' hh
      have F' := hh.1; have hd := hh.2; clear hh; (try simp only [Hp.Facts, Hp.CellsAt, Nat.reduceAdd, List.cons_append, List.nil_append] at F'); skip
      go_simp
      try with_reducible rfl
    (try simp only [Act.put, List.setIfInBounds_toArray, List.set_cons_zero, List.set_cons_succ])
    refine Hp.take (i := 4) (oi := ⟨some 19, Op.fieldAddr 23 (Operand.tmp 3) 1, _, _, _, none⟩) (v := ?_) rfl (by kernel_rfl) (by kernel_rfl) (by kernel_rfl) (fun _ _ _ h => h) (by rfl) ⟨sh.facts, sh.data⟩ ?_ ?_
    rotate_left
    · intro w' hh
      clear hh; go_simp
      try with_reducible rfl
    (try simp only [Act.put, List.setIfInBounds_toArray, List.set_cons_zero, List.set_cons_succ])
    refine Hp.take (i := 5) (oi := ⟨some 20, Op.load 3 (Operand.tmp 19), _, _, _, none⟩) (v := ?_) rfl (by kernel_rfl) (by kernel_rfl) (by kernel_rfl) (fun _ _ _ h => h) (by rfl) ⟨sh.facts, sh.data⟩ ?_ ?_
    rotate_left
    · intro w' hh
      have F' := hh.1; have hd := hh.2; clear hh; (try simp only [Hp.Facts, Hp.CellsAt, Nat.reduceAdd, List.cons_append, List.nil_append] at F'); skip
      go_simp
      try with_reducible rfl
    (try simp only [Act.put, List.setIfInBounds_toArray, List.set_cons_zero, List.set_cons_succ])
    refine Hp.take (i := 6) (oi := ⟨some 21, Op.convert 3 24 (Operand.tmp 20), _, _, _, none⟩) (v := ?_) rfl (by kernel_rfl) (by kernel_rfl) (by kernel_rfl) (fun _ _ _ h => h) (by rfl) ⟨sh.facts, sh.data⟩ ?_ ?_
    rotate_left
    · intro w' hh
      clear hh; go_simp
      try with_reducible rfl
    (try simp only [Act.put, List.setIfInBounds_toArray, List.set_cons_zero, List.set_cons_succ])
    refine Hp.take (i := 10) (oi := ⟨some 25, Op.fieldAddr 23 (Operand.tmp 3) 2, _, _, _, none⟩) (v := ?_) rfl (by kernel_rfl) (by kernel_rfl) (by kernel_rfl) (fun _ _ _ h => h) (by rfl) ⟨sh.facts, sh.data⟩ ?_ ?_
    rotate_left
    · intro w' hh
      clear hh; go_simp
      try with_reducible rfl
    (try simp only [Act.put, List.setIfInBounds_toArray, List.set_cons_zero, List.set_cons_succ])
    refine Hp.take (i := 11) (oi := ⟨some 26, Op.load 3 (Operand.tmp 25), _, _, _, none⟩) (v := ?_) rfl (by kernel_rfl) (by kernel_rfl) (by kernel_rfl) (fun _ _ _ h => h) (by rfl) ⟨sh.facts, sh.data⟩ ?_ ?_
    rotate_left
    · intro w' hh
      have F' := hh.1; have hd := hh.2; clear hh; (try simp only [Hp.Facts, Hp.CellsAt, Nat.reduceAdd, List.cons_append, List.nil_append] at F'); skip
      go_simp
      try with_reducible rfl
    (try simp only [Act.put, List.setIfInBounds_toArray, List.set_cons_zero, List.set_cons_succ])
    refine Hp.take (i := 12) (oi := ⟨some 27, Op.convert 3 24 (Operand.tmp 26), _, _, _, none⟩) (v := ?_) rfl (by kernel_rfl) (by kernel_rfl) (by kernel_rfl) (fun _ _ _ h => h) (by rfl) ⟨sh.facts, sh.data⟩ ?_ ?_
    rotate_left
    · intro w' hh
      clear hh; go_simp
      try with_reducible rfl
    (try simp only [Act.put, List.setIfInBounds_toArray, List.set_cons_zero, List.set_cons_succ])
    refine Hp.take (i := 16) (oi := ⟨some 31, Op.fieldAddr 23 (Operand.tmp 3) 3, _, _, _, none⟩) (v := ?_) rfl (by kernel_rfl) (by kernel_rfl) (by kernel_rfl) (fun _ _ _ h => h) (by rfl) ⟨sh.facts, sh.data⟩ ?_ ?_
    rotate_left
    · intro w' hh
      clear hh; go_simp
      try with_reducible rfl
    (try simp only [Act.put, List.setIfInBounds_toArray, List.set_cons_zero, List.set_cons_succ])
    refine Hp.take (i := 17) (oi := ⟨some 32, Op.load 3 (Operand.tmp 31), _, _, _, none⟩) (v := ?_) rfl (by kernel_rfl) (by kernel_rfl) (by kernel_rfl) (fun _ _ _ h => h) (by rfl) ⟨sh.facts, sh.data⟩ ?_ ?_
    rotate_left
    · intro w' hh
      have F' := hh.1; have hd := hh.2; clear hh; (try simp only [Hp.Facts, Hp.CellsAt, Nat.reduceAdd, List.cons_append, List.nil_append] at F'); skip
      go_simp
      try with_reducible rfl
    (try simp only [Act.put, List.setIfInBounds_toArray, List.set_cons_zero, List.set_cons_succ])
    refine Hp.take (i := 18) (oi := ⟨some 33, Op.convert 3 24 (Operand.tmp 32), _, _, _, none⟩) (v := ?_) rfl (by kernel_rfl) (by kernel_rfl) (by kernel_rfl) (fun _ _ _ h => h) (by rfl) ⟨sh.facts, sh.data⟩ ?_ ?_
    rotate_left
    · intro w' hh
      clear hh; go_simp
      try with_reducible rfl
    (try simp only [Act.put, List.setIfInBounds_toArray, List.set_cons_zero, List.set_cons_succ])
    refine Hp.branch [2] (by kernel_rfl) (by simp) ?_
    refine Hp.Each.cons ?_ ?_
    · refine Hp.op_step (o := ⟨some 17, Op.call { callee := Callee.value (Operand.func 14), args := #[Operand.tmp 16], argTypes := #[3] }, _, _, _, none⟩) rfl (by rfl) (fun K hK => ?_)
      go_simp
      (try rw [wa]); (try rw [wq]); (try rw [wn]); go_fit (HN.out _); rintro e w1 ⟨rfl, hb⟩; replace sh := sh.call hb; clear hb F; have F := sh.facts; (try simp only [Hp.Facts, Hp.CellsAt, Nat.reduceAdd, List.cons_append, List.nil_append] at F)
      refine hK _ _ ⟨sh.facts, sh.data⟩ ?_; clear hK K; (try simp only [Act.put, List.setIfInBounds_toArray, List.set_cons_zero, List.set_cons_succ])
      refine Hp.take (i := 3) (oi := ⟨some 18, Op.binOp BinOp.add 9 (Operand.tmp 17) (Operand.const (Value.string { data := #[32, 114] })) 9, _, _, _, none⟩) (v := ?_) rfl (by kernel_rfl) (by kernel_rfl) (by kernel_rfl) (fun _ _ _ h => h) (by rfl) ⟨sh.facts, sh.data⟩ ?_ ?_
      rotate_left
      · intro w' hh
        clear hh; go_simp
        try with_reducible rfl
      (try simp only [Act.put, List.setIfInBounds_toArray, List.set_cons_zero, List.set_cons_succ])
      refine Hp.branch [7] (by kernel_rfl) (by simp) ?_
      refine Hp.Each.cons ?_ ?_
      · refine Hp.op_step (o := ⟨some 22, Op.call { callee := Callee.value (Operand.func 30), args := #[Operand.tmp 21], argTypes := #[24] }, _, _, _, none⟩) rfl (by rfl) (fun K hK => ?_)
        go_simp
        (try rw [wa]); (try rw [wq]); (try rw [wn]); go_fit (HA.out _); rintro e w1 ⟨rfl, hb⟩; replace sh := sh.call hb; clear hb F; have F := sh.facts; (try simp only [Hp.Facts, Hp.CellsAt, Nat.reduceAdd, List.cons_append, List.nil_append] at F)
        refine hK _ _ ⟨sh.facts, sh.data⟩ ?_; clear hK K; (try simp only [Act.put, List.setIfInBounds_toArray, List.set_cons_zero, List.set_cons_succ])
        refine Hp.take (i := 8) (oi := ⟨some 23, Op.binOp BinOp.add 9 (Operand.tmp 18) (Operand.tmp 22) 9, _, _, _, none⟩) (v := ?_) rfl (by kernel_rfl) (by kernel_rfl) (by kernel_rfl) (fun _ _ _ h => h) (by rfl) ⟨sh.facts, sh.data⟩ ?_ ?_
        rotate_left
        · intro w' hh
          clear hh; go_simp
          try with_reducible rfl
        (try simp only [Act.put, List.setIfInBounds_toArray, List.set_cons_zero, List.set_cons_succ])
        refine Hp.take (i := 9) (oi := ⟨some 24, Op.binOp BinOp.add 9 (Operand.tmp 23) (Operand.const (Value.string { data := #[32, 114] })) 9, _, _, _, none⟩) (v := ?_) rfl (by kernel_rfl) (by kernel_rfl) (by kernel_rfl) (fun _ _ _ h => h) (by rfl) ⟨sh.facts, sh.data⟩ ?_ ?_
        rotate_left
        · intro w' hh
          clear hh; go_simp
          try with_reducible rfl
        (try simp only [Act.put, List.setIfInBounds_toArray, List.set_cons_zero, List.set_cons_succ])
        refine Hp.branch [13] (by kernel_rfl) (by simp) ?_
        refine Hp.Each.cons ?_ ?_
        · refine Hp.op_step (o := ⟨some 28, Op.call { callee := Callee.value (Operand.func 30), args := #[Operand.tmp 27], argTypes := #[24] }, _, _, _, none⟩) rfl (by rfl) (fun K hK => ?_)
          go_simp
          (try rw [wa]); (try rw [wq]); (try rw [wn]); go_fit (HQ.out _); rintro e w1 ⟨rfl, hb⟩; replace sh := sh.call hb; clear hb F; have F := sh.facts; (try simp only [Hp.Facts, Hp.CellsAt, Nat.reduceAdd, List.cons_append, List.nil_append] at F)
          refine hK _ _ ⟨sh.facts, sh.data⟩ ?_; clear hK K; (try simp only [Act.put, List.setIfInBounds_toArray, List.set_cons_zero, List.set_cons_succ])
          refine Hp.take (i := 14) (oi := ⟨some 29, Op.binOp BinOp.add 9 (Operand.tmp 24) (Operand.tmp 28) 9, _, _, _, none⟩) (v := ?_) rfl (by kernel_rfl) (by kernel_rfl) (by kernel_rfl) (fun _ _ _ h => h) (by rfl) ⟨sh.facts, sh.data⟩ ?_ ?_
          rotate_left
          · intro w' hh
            clear hh; go_simp
            try with_reducible rfl
          (try simp only [Act.put, List.setIfInBounds_toArray, List.set_cons_zero, List.set_cons_succ])
          refine Hp.take (i := 15) (oi := ⟨some 30, Op.binOp BinOp.add 9 (Operand.tmp 29) (Operand.const (Value.string { data := #[32] })) 9, _, _, _, none⟩) (v := ?_) rfl (by kernel_rfl) (by kernel_rfl) (by kernel_rfl) (fun _ _ _ h => h) (by rfl) ⟨sh.facts, sh.data⟩ ?_ ?_
          rotate_left
          · intro w' hh
            clear hh; go_simp
            try with_reducible rfl
          (try simp only [Act.put, List.setIfInBounds_toArray, List.set_cons_zero, List.set_cons_succ])
          refine Hp.branch [19] (by kernel_rfl) (by simp) ?_
          refine Hp.Each.cons ?_ ?_
          · refine Hp.op_step (o := ⟨some 34, Op.call { callee := Callee.value (Operand.func 30), args := #[Operand.tmp 33], argTypes := #[24] }, _, _, _, none⟩) rfl (by rfl) (fun K hK => ?_)
            go_simp
            (try rw [wa]); (try rw [wq]); (try rw [wn]); go_fit (HM.out _); rintro e w1 ⟨rfl, hb⟩; replace sh := sh.call hb; clear hb F; have F := sh.facts; (try simp only [Hp.Facts, Hp.CellsAt, Nat.reduceAdd, List.cons_append, List.nil_append] at F)
            refine hK _ _ ⟨sh.facts, sh.data⟩ ?_; clear hK K; (try simp only [Act.put, List.setIfInBounds_toArray, List.set_cons_zero, List.set_cons_succ])
            refine Hp.take (i := 20) (oi := ⟨some 35, Op.binOp BinOp.add 9 (Operand.tmp 30) (Operand.tmp 34) 9, _, _, _, none⟩) (v := ?_) rfl (by kernel_rfl) (by kernel_rfl) (by kernel_rfl) (fun _ _ _ h => h) (by rfl) ⟨sh.facts, sh.data⟩ ?_ ?_
            rotate_left
            · intro w' hh
              clear hh; go_simp
              try with_reducible rfl
            (try simp only [Act.put, List.setIfInBounds_toArray, List.set_cons_zero, List.set_cons_succ])
            refine Hp.take (i := 21) (oi := ⟨some 2, Op.assign (Operand.tmp 35), _, _, _, none⟩) (v := ?_) rfl (by kernel_rfl) (by kernel_rfl) (by kernel_rfl) (fun _ _ _ h => h) (by rfl) ⟨sh.facts, sh.data⟩ ?_ ?_
            rotate_left
            · intro w' hh
              clear hh; go_simp
              try with_reducible rfl
            (try simp only [Act.put, List.setIfInBounds_toArray, List.set_cons_zero, List.set_cons_succ])
            refine wpAnyH_done (by kernel_rfl) ?_ _
            go_wp2; go_ret; exact ⟨rfl, sh.below⟩
          exact Hp.Each.nil
        exact Hp.Each.nil
      exact Hp.Each.nil
    exact Hp.Each.nil
  · have hrb : (r != 0) = true := by rw [bne_iff_ne]; exact hr
    rw [if_neg hr]
    clear hok
    have HA := Lib.hid (fun W => idigitsR _ z W rfl hz)
    have hs : (⟨([63, 32] ++ InsP.nat z).toArray⟩ : ByteArray) = ⟨#[63, 32]⟩ ++ ⟨(InsP.nat z).toArray⟩ := (str_app [63, 32] _).symm
    rw [hs]
    clear hs
    have s1 := InsP.nat_size (z := z) (by omega)
    generalize (⟨(InsP.nat z).toArray⟩ : ByteArray) = l at HA s1
    have f1 : ¬ 9223372036854775807 < 2 + l.size := by omega
    go_enter Try.func16, Try.ntmps16
    have tok_bx : True := trivial
    go_wp2_with (first
        | ((have tok := tok_bx); clear tok tok_bx; (first | (with_reducible refine Hp.wpl_box sh ?_ ?_) | (with_reducible refine Hp.wpl_alloc Try.z_insn sh ?_ ?_) | (with_reducible refine Hp.wpl_alloc Try.z_bld sh ?_ ?_) | (with_reducible refine Hp.wpl_alloc Try.z_fn sh ?_ ?_)); exact rfl; clear sh; (try clear F); go_simp; intro bx w1 sh; have F := sh.facts; (try simp only [Hp.Facts, Hp.CellsAt, Nat.reduceAdd, List.cons_append, List.nil_append] at F))
        | ((with_reducible refine Hp.wpl_box sh ?_ ?_); exact rfl; clear sh; (try clear F); go_simp; intro b w1 sh; have F := sh.facts; (try simp only [Hp.Facts, Hp.CellsAt, Nat.reduceAdd, List.cons_append, List.nil_append] at F))
        | ((with_reducible refine Hp.wpl_alloc Try.z_insn sh ?_ ?_); exact rfl; clear sh; (try clear F); go_simp; intro b w1 sh; have F := sh.facts; (try simp only [Hp.Facts, Hp.CellsAt, Nat.reduceAdd, List.cons_append, List.nil_append] at F))
        | ((with_reducible refine Hp.wpl_alloc Try.z_bld sh ?_ ?_); exact rfl; clear sh; (try clear F); go_simp; intro b w1 sh; have F := sh.facts; (try simp only [Hp.Facts, Hp.CellsAt, Nat.reduceAdd, List.cons_append, List.nil_append] at F))
        | ((with_reducible refine Hp.wpl_alloc Try.z_fn sh ?_ ?_); exact rfl; clear sh; (try clear F); go_simp; intro b w1 sh; have F := sh.facts; (try simp only [Hp.Facts, Hp.CellsAt, Nat.reduceAdd, List.cons_append, List.nil_append] at F))
        | ((with_reducible refine Hp.atl_store ?_ ?_); exact rfl; (first | refine Hp.wp_store 0 sh rfl rfl rfl rfl (by kernel_rfl) (Nat.le_of_ble_eq_true rfl) rfl ?_ | refine Hp.wp_store 1 sh rfl rfl rfl rfl (by kernel_rfl) (Nat.le_of_ble_eq_true rfl) rfl ?_ | refine Hp.wp_store 2 sh rfl rfl rfl rfl (by kernel_rfl) (Nat.le_of_ble_eq_true rfl) rfl ?_ | refine Hp.wp_store 3 sh rfl rfl rfl rfl (by kernel_rfl) (Nat.le_of_ble_eq_true rfl) rfl ?_ | refine Hp.wp_store 4 sh rfl rfl rfl rfl (by kernel_rfl) (Nat.le_of_ble_eq_true rfl) rfl ?_ | refine Hp.wp_store 5 sh rfl rfl rfl rfl (by kernel_rfl) (Nat.le_of_ble_eq_true rfl) rfl ?_ | refine Hp.wp_store 6 sh rfl rfl rfl rfl (by kernel_rfl) (Nat.le_of_ble_eq_true rfl) rfl ?_); clear sh; (try clear F); go_simp; intro w1 sh; have F := sh.facts; (try simp only [Hp.Facts, Hp.CellsAt, Nat.reduceAdd, List.cons_append, List.nil_append] at F))
        | fail)
    go_fit (HG.out _)
    rintro e w1 ⟨rfl, hb⟩
    replace sh := sh.call hb; clear hb; (try clear F); have F := sh.facts; (try simp only [Hp.Facts, Hp.CellsAt, Nat.reduceAdd, List.cons_append, List.nil_append] at F)
    go_wp2_with (first
        | ((with_reducible refine Hp.wpl_box sh ?_ ?_); exact rfl; clear sh; (try clear F); go_simp; intro b w1 sh; have F := sh.facts; (try simp only [Hp.Facts, Hp.CellsAt, Nat.reduceAdd, List.cons_append, List.nil_append] at F))
        | ((with_reducible refine Hp.wpl_alloc Try.z_insn sh ?_ ?_); exact rfl; clear sh; (try clear F); go_simp; intro b w1 sh; have F := sh.facts; (try simp only [Hp.Facts, Hp.CellsAt, Nat.reduceAdd, List.cons_append, List.nil_append] at F))
        | ((with_reducible refine Hp.wpl_alloc Try.z_bld sh ?_ ?_); exact rfl; clear sh; (try clear F); go_simp; intro b w1 sh; have F := sh.facts; (try simp only [Hp.Facts, Hp.CellsAt, Nat.reduceAdd, List.cons_append, List.nil_append] at F))
        | ((with_reducible refine Hp.wpl_alloc Try.z_fn sh ?_ ?_); exact rfl; clear sh; (try clear F); go_simp; intro b w1 sh; have F := sh.facts; (try simp only [Hp.Facts, Hp.CellsAt, Nat.reduceAdd, List.cons_append, List.nil_append] at F))
        | ((with_reducible refine Hp.atl_store ?_ ?_); exact rfl; (first | refine Hp.wp_store 0 sh rfl rfl rfl rfl (by kernel_rfl) (Nat.le_of_ble_eq_true rfl) rfl ?_ | refine Hp.wp_store 1 sh rfl rfl rfl rfl (by kernel_rfl) (Nat.le_of_ble_eq_true rfl) rfl ?_ | refine Hp.wp_store 2 sh rfl rfl rfl rfl (by kernel_rfl) (Nat.le_of_ble_eq_true rfl) rfl ?_ | refine Hp.wp_store 3 sh rfl rfl rfl rfl (by kernel_rfl) (Nat.le_of_ble_eq_true rfl) rfl ?_ | refine Hp.wp_store 4 sh rfl rfl rfl rfl (by kernel_rfl) (Nat.le_of_ble_eq_true rfl) rfl ?_ | refine Hp.wp_store 5 sh rfl rfl rfl rfl (by kernel_rfl) (Nat.le_of_ble_eq_true rfl) rfl ?_ | refine Hp.wp_store 6 sh rfl rfl rfl rfl (by kernel_rfl) (Nat.le_of_ble_eq_true rfl) rfl ?_); clear sh; (try clear F); go_simp; intro w1 sh; have F := sh.facts; (try simp only [Hp.Facts, Hp.CellsAt, Nat.reduceAdd, List.cons_append, List.nil_append] at F))
        | fail)
    go_fit (HA.out _)
    rintro e w1 ⟨rfl, hb⟩
    replace sh := sh.call hb; clear hb; (try clear F); have F := sh.facts; (try simp only [Hp.Facts, Hp.CellsAt, Nat.reduceAdd, List.cons_append, List.nil_append] at F)
    go_wp2_with (first
        | ((with_reducible refine Hp.wpl_box sh ?_ ?_); exact rfl; clear sh; (try clear F); go_simp; intro b w1 sh; have F := sh.facts; (try simp only [Hp.Facts, Hp.CellsAt, Nat.reduceAdd, List.cons_append, List.nil_append] at F))
        | ((with_reducible refine Hp.wpl_alloc Try.z_insn sh ?_ ?_); exact rfl; clear sh; (try clear F); go_simp; intro b w1 sh; have F := sh.facts; (try simp only [Hp.Facts, Hp.CellsAt, Nat.reduceAdd, List.cons_append, List.nil_append] at F))
        | ((with_reducible refine Hp.wpl_alloc Try.z_bld sh ?_ ?_); exact rfl; clear sh; (try clear F); go_simp; intro b w1 sh; have F := sh.facts; (try simp only [Hp.Facts, Hp.CellsAt, Nat.reduceAdd, List.cons_append, List.nil_append] at F))
        | ((with_reducible refine Hp.wpl_alloc Try.z_fn sh ?_ ?_); exact rfl; clear sh; (try clear F); go_simp; intro b w1 sh; have F := sh.facts; (try simp only [Hp.Facts, Hp.CellsAt, Nat.reduceAdd, List.cons_append, List.nil_append] at F))
        | ((with_reducible refine Hp.atl_store ?_ ?_); exact rfl; (first | refine Hp.wp_store 0 sh rfl rfl rfl rfl (by kernel_rfl) (Nat.le_of_ble_eq_true rfl) rfl ?_ | refine Hp.wp_store 1 sh rfl rfl rfl rfl (by kernel_rfl) (Nat.le_of_ble_eq_true rfl) rfl ?_ | refine Hp.wp_store 2 sh rfl rfl rfl rfl (by kernel_rfl) (Nat.le_of_ble_eq_true rfl) rfl ?_ | refine Hp.wp_store 3 sh rfl rfl rfl rfl (by kernel_rfl) (Nat.le_of_ble_eq_true rfl) rfl ?_ | refine Hp.wp_store 4 sh rfl rfl rfl rfl (by kernel_rfl) (Nat.le_of_ble_eq_true rfl) rfl ?_ | refine Hp.wp_store 5 sh rfl rfl rfl rfl (by kernel_rfl) (Nat.le_of_ble_eq_true rfl) rfl ?_ | refine Hp.wp_store 6 sh rfl rfl rfl rfl (by kernel_rfl) (Nat.le_of_ble_eq_true rfl) rfl ?_); clear sh; (try clear F); go_simp; intro w1 sh; have F := sh.facts; (try simp only [Hp.Facts, Hp.CellsAt, Nat.reduceAdd, List.cons_append, List.nil_append] at F))
        | fail)
    go_ret
    exact ⟨rfl, sh.below⟩

end Go.Proofs.Ytkakehhoneplhaa
