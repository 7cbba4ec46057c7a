
/-
  The walk of index's block.
-/
import Derived.Test.YtedcnoajadnhnaaIdx1
namespace Go.Proofs.Ytedcnoajadnhnaa
open Go.RowKit
set_option linter.unusedVariables false
set_option linter.unusedSimpArgs false
namespace IdxP
/-- Seven numbers, of which some have been taken. -/
def nA (ns : List Nat) : Array Value := ((ns ++ List.replicate (7 - ns.length) 0).map (fun n : Nat => Value.int .u64 (n : Int))).toArray
theorem nA_size {ns : List Nat} (h : ns.length ≤ 7) : (nA ns).size = 7 := by simp [nA]; omega
theorem nA_set {ns : List Nat} (h : ns.length < 7) (n : Nat) : (nA ns).setIfInBounds ns.length (.int .u64 (n : Int)) = nA (ns ++ [n]) := by
  unfold nA
  obtain ⟨m, hm⟩ : ∃ m, 7 - ns.length = m + 1 := ⟨6 - ns.length, by omega⟩
  rw [hm, List.length_append, show 7 - (ns.length + [n].length) = m by simp; omega]
  simp [List.replicate_succ]
theorem take_len {l r : List UInt8} {n : Nat} (h : WireP.takeL l = (n, r, 0)) : r.length ≤ l.length := by
  have := (WireP.takeL_back l r n h).1
  rw [← this, List.length_append]; omega
theorem takes_ok {k n : Nat} {s r : List UInt8} (h : WireP.takeL s = (n, r, 0)) : takes (k + 1) s = (n :: (takes k r).1, (takes k r).2) := by
  rw [takes, h]; simp
theorem takes_err {k n : Nat} {s r : List UInt8} {e : Int} (h : WireP.takeL s = (n, r, e)) (he : e ≠ 0) : takes (k + 1) s = ([], [], e) := by
  rw [takes, h]; simp [he]
theorem getB_err {l : List UInt8} {e : Int} (h : (takes 7 l).2.2 = e) (he : e ≠ 0) : getB l = (QryP.zeroB, [], e) := by
  unfold getB; rw [h, if_pos he]
theorem getB_ok {l r : List UInt8} {ns : List Nat} (h : takes 7 l = (ns, r, 0)) : getB l = bOf ns r := by
  unfold getB; rw [h]; simp
def BlockP (X : Bk × (List UInt8 × Int)) (w : World) (e : Ending) (w' : World) : Prop := e = .returned (.tuple #[QryP.bcA X.1, .string (bstr X.2.1), .int .i64 X.2.2]) ∧ Below w.heap.size w w'
theorem ix0 (a b c d : Int) (W : World) : (Instr.index 86 (.agg #[.int .u64 a, .int .u64 b, .int .u64 c, .int .u64 d]) (.int .i64 0)).run Try.prog W = .ok (.int .u64 a) W := by kernel_rfl
theorem ix1 (a b c d : Int) (W : World) : (Instr.index 86 (.agg #[.int .u64 a, .int .u64 b, .int .u64 c, .int .u64 d]) (.int .i64 1)).run Try.prog W = .ok (.int .u64 b) W := by kernel_rfl
theorem ix2 (a b c d : Int) (W : World) : (Instr.index 86 (.agg #[.int .u64 a, .int .u64 b, .int .u64 c, .int .u64 d]) (.int .i64 2)).run Try.prog W = .ok (.int .u64 c) W := by kernel_rfl
theorem ix3 (a b c d : Int) (W : World) : (Instr.index 86 (.agg #[.int .u64 a, .int .u64 b, .int .u64 c, .int .u64 d]) (.int .i64 3)).run Try.prog W = .ok (.int .u64 d) W := by kernel_rfl
end IdxP
theorem Try.z_numA (W : World) : (zeroValue 85).run Try.prog W = .ok (.agg (IdxP.nA [])) W := by kernel_rfl

set_option maxHeartbeats 4000000 in
set_option maxRecDepth 100000 in
theorem iblock (l : List UInt8) (hl : l.length ≤ 140737488351232) (w : World) : Calls Try.prog 49 #[.string (bstr l)] w fun e w' => IdxP.BlockP (IdxP.getB l) w e w' := by
  have sh : Hp.Sh w w [] (fun _ => True) := Hp.Sh.start (fun _ _ => trivial)
  go_enter Try.func49, Try.ntmps49
  have tok_b2 : True := trivial
  have tok_bn : True := trivial
  go_wp2_with (first
      | ((have tok := tok_b2); clear tok tok_b2; (first | (with_reducible refine Hp.wpl_box sh ?_ ?_) | (with_reducible refine Hp.wpl_alloc Try.z_blk sh ?_ ?_) | (with_reducible refine Hp.wpl_alloc Try.z_numA sh ?_ ?_)); exact rfl; clear sh; (try clear F); go_simp; intro b2 w1 sh; have F := sh.facts; (try simp only [Hp.Facts, Hp.CellsAt, Nat.reduceAdd, List.cons_append, List.nil_append] at F))
      | ((have tok := tok_bn); clear tok tok_bn; (first | (with_reducible refine Hp.wpl_box sh ?_ ?_) | (with_reducible refine Hp.wpl_alloc Try.z_blk sh ?_ ?_) | (with_reducible refine Hp.wpl_alloc Try.z_numA sh ?_ ?_)); exact rfl; clear sh; (try clear F); go_simp; intro bn w1 sh; have F := sh.facts; (try simp only [Hp.Facts, Hp.CellsAt, Nat.reduceAdd, List.cons_append, List.nil_append] at F))
      | ((with_reducible refine Hp.wpl_box sh ?_ ?_); exact rfl; clear sh; (try clear F); go_simp; intro b w1 sh; have F := sh.facts; (try simp only [Hp.Facts, Hp.CellsAt, Nat.reduceAdd, List.cons_append, List.nil_append] at F))
      | ((with_reducible refine Hp.wpl_alloc Try.z_blk sh ?_ ?_); exact rfl; clear sh; (try clear F); go_simp; intro b w1 sh; have F := sh.facts; (try simp only [Hp.Facts, Hp.CellsAt, Nat.reduceAdd, List.cons_append, List.nil_append] at F))
      | ((with_reducible refine Hp.wpl_alloc Try.z_numA sh ?_ ?_); exact rfl; clear sh; (try clear F); go_simp; intro b w1 sh; have F := sh.facts; (try simp only [Hp.Facts, Hp.CellsAt, Nat.reduceAdd, List.cons_append, List.nil_append] at F))
      | ((with_reducible refine Hp.atl_store ?_ ?_); exact rfl; (first | refine Hp.wp_store 0 sh rfl rfl rfl rfl (by kernel_rfl) (Nat.le_of_ble_eq_true rfl) rfl ?_ | refine Hp.wp_store 1 sh rfl rfl rfl rfl (by kernel_rfl) (Nat.le_of_ble_eq_true rfl) rfl ?_ | refine Hp.wp_store 2 sh rfl rfl rfl rfl (by kernel_rfl) (Nat.le_of_ble_eq_true rfl) rfl ?_ | refine Hp.wp_store 3 sh rfl rfl rfl rfl (by kernel_rfl) (Nat.le_of_ble_eq_true rfl) rfl ?_ | refine Hp.wp_store 4 sh rfl rfl rfl rfl (by kernel_rfl) (Nat.le_of_ble_eq_true rfl) rfl ?_ | refine Hp.wp_store 5 sh rfl rfl rfl rfl (by kernel_rfl) (Nat.le_of_ble_eq_true rfl) rfl ?_ | refine Hp.wp_store 6 sh rfl rfl rfl rfl (by kernel_rfl) (Nat.le_of_ble_eq_true rfl) rfl ?_); clear sh; (try clear F); go_simp; intro w1 sh; have F := sh.facts; (try simp only [Hp.Facts, Hp.CellsAt, Nat.reduceAdd, List.cons_append, List.nil_append] at F))
      | fail)
  go_loopw [0, 13] (fun s i wr => ∃ (k : Nat) (ns : List Nat) (r : List UInt8), s = .string (bstr r) ∧ i = .int .i64 k ∧ k ≤ 7 ∧ r.length ≤ 140737488351232 ∧ Hid (ns.length = k ∧ IdxP.takes 7 l = (ns ++ (IdxP.takes (7 - k) r).1, (IdxP.takes (7 - k) r).2) ∧ ∀ n ∈ ns, n < 18446744073709551616) ∧ Hp.Sh w wr [(bn, IdxP.nA ns, 85), (b2, #[.int .i64 0, .int .i64 0, .int .u64 0, .int .i64 0, .int .i64 0, .int .u64 0, .int .u64 0], 28)] (fun _ => True)) (fun _ i _ => 7 - (intOf i).toNat)
  case atStart => exact ⟨0, [], l, rfl, rfl, by omega, hl, ⟨rfl, by simp, by simp⟩, sh⟩
  case round =>
    clear sh
    obtain ⟨k, ns, r, rfl, rfl, hk, hr, HK, sh⟩ := hrel
    by_cases hlt : k < 7
    · have hlI : (k : Int) < 7 := by omega
      obtain ⟨⟨n, r', e⟩, hq⟩ : ∃ x, WireP.takeL r = x := ⟨_, rfl⟩
      have KT := Lib.hid (fun W => wireTake_any (bstr r) W (by rw [bstr_size]; exact hr))
      simp only [bstr_data, WireP.takeV_of hq] at KT
      obtain ⟨m, hm⟩ : ∃ m, 7 - k = m + 1 := ⟨6 - k, by omega⟩
      by_cases he : e = 0
      · subst he
        have HN := Lib.hid (show (ns ++ [n]).length = k + 1 ∧ IdxP.takes 7 l = ((ns ++ [n]) ++ (IdxP.takes (7 - (k + 1)) r').1, (IdxP.takes (7 - (k + 1)) r').2) ∧ ∀ x ∈ ns ++ [n], x < 18446744073709551616 by
          refine ⟨by rw [List.length_append, HK.out.1]; rfl, ?_, fun x hx => ?_⟩
          · rw [HK.out.2.1, hm, IdxP.takes_ok hq, show 7 - (k + 1) = m by omega]; simp
          · rcases List.mem_append.1 hx with hx | hx
            · exact HK.out.2.2 x hx
            · rw [List.mem_singleton.1 hx]; exact (WireP.takeL_back r r' n hq).2)
        have hr2 : r'.length ≤ 140737488351232 := Nat.le_trans (IdxP.take_len hq) hr
        have HS := Lib.hid (show (IdxP.nA ns).setIfInBounds k (.int .u64 (n : Int)) = IdxP.nA (ns ++ [n]) by have := IdxP.nA_set (ns := ns) (by rw [HK.out.1]; exact hlt) n; rw [HK.out.1] at this; exact this)
        have hfit : k + 1 ≤ (IdxP.nA ns).size := by rw [IdxP.nA_size (by rw [HK.out.1]; omega)]; omega
        clear hm hq HK
        have F := sh.facts; (try simp only [Hp.Facts, Hp.CellsAt, Nat.reduceAdd, List.cons_append, List.nil_append] at F)
        go_wp2_with (first
            | ((with_reducible refine Hp.wpl_box sh ?_ ?_); exact rfl; clear sh; (try clear F); go_simp; intro b w1 sh; have F := sh.facts; (try simp only [Hp.Facts, Hp.CellsAt, Nat.reduceAdd, List.cons_append, List.nil_append] at F))
            | ((with_reducible refine Hp.wpl_alloc Try.z_blk sh ?_ ?_); exact rfl; clear sh; (try clear F); go_simp; intro b w1 sh; have F := sh.facts; (try simp only [Hp.Facts, Hp.CellsAt, Nat.reduceAdd, List.cons_append, List.nil_append] at F))
            | ((with_reducible refine Hp.wpl_alloc Try.z_numA sh ?_ ?_); exact rfl; clear sh; (try clear F); go_simp; intro b w1 sh; have F := sh.facts; (try simp only [Hp.Facts, Hp.CellsAt, Nat.reduceAdd, List.cons_append, List.nil_append] at F))
            | ((with_reducible refine Hp.atl_store ?_ ?_); exact rfl; (first | refine Hp.wp_store 0 sh rfl rfl rfl rfl (by kernel_rfl) (Nat.le_of_ble_eq_true rfl) rfl ?_ | refine Hp.wp_store 1 sh rfl rfl rfl rfl (by kernel_rfl) (Nat.le_of_ble_eq_true rfl) rfl ?_ | refine Hp.wp_store 2 sh rfl rfl rfl rfl (by kernel_rfl) (Nat.le_of_ble_eq_true rfl) rfl ?_ | refine Hp.wp_store 3 sh rfl rfl rfl rfl (by kernel_rfl) (Nat.le_of_ble_eq_true rfl) rfl ?_ | refine Hp.wp_store 4 sh rfl rfl rfl rfl (by kernel_rfl) (Nat.le_of_ble_eq_true rfl) rfl ?_ | refine Hp.wp_store 5 sh rfl rfl rfl rfl (by kernel_rfl) (Nat.le_of_ble_eq_true rfl) rfl ?_ | refine Hp.wp_store 6 sh rfl rfl rfl rfl (by kernel_rfl) (Nat.le_of_ble_eq_true rfl) rfl ?_); clear sh; (try clear F); go_simp; intro w1 sh; have F := sh.facts; (try simp only [Hp.Facts, Hp.CellsAt, Nat.reduceAdd, List.cons_append, List.nil_append] at F))
            | fail)
        go_fit (KT.out _)
        rintro e w1 ⟨rfl, hb⟩
        replace sh := sh.call hb; clear hb; (try clear F); have F := sh.facts; (try simp only [Hp.Facts, Hp.CellsAt, Nat.reduceAdd, List.cons_append, List.nil_append] at F)
        go_wp2_with (first
            | ((with_reducible refine Hp.atl_store ?_ ?_); exact rfl; (refine Hp.wp_store 0 sh rfl rfl rfl rfl (by kernel_rfl) (hfit) rfl ?_); clear sh; (try clear F); go_simp; intro w1 sh; rw [HS.out] at sh; have F := sh.facts; (try simp only [Hp.Facts, Hp.CellsAt, Nat.reduceAdd, List.cons_append, List.nil_append] at F))
            | ((with_reducible refine Hp.wpl_box sh ?_ ?_); exact rfl; clear sh; (try clear F); go_simp; intro b w1 sh; have F := sh.facts; (try simp only [Hp.Facts, Hp.CellsAt, Nat.reduceAdd, List.cons_append, List.nil_append] at F))
            | ((with_reducible refine Hp.wpl_alloc Try.z_blk sh ?_ ?_); exact rfl; clear sh; (try clear F); go_simp; intro b w1 sh; have F := sh.facts; (try simp only [Hp.Facts, Hp.CellsAt, Nat.reduceAdd, List.cons_append, List.nil_append] at F))
            | ((with_reducible refine Hp.wpl_alloc Try.z_numA sh ?_ ?_); exact rfl; clear sh; (try clear F); go_simp; intro b w1 sh; have F := sh.facts; (try simp only [Hp.Facts, Hp.CellsAt, Nat.reduceAdd, List.cons_append, List.nil_append] at F))
            | ((with_reducible refine Hp.atl_store ?_ ?_); exact rfl; (first | refine Hp.wp_store 0 sh rfl rfl rfl rfl (by kernel_rfl) (Nat.le_of_ble_eq_true rfl) rfl ?_ | refine Hp.wp_store 1 sh rfl rfl rfl rfl (by kernel_rfl) (Nat.le_of_ble_eq_true rfl) rfl ?_ | refine Hp.wp_store 2 sh rfl rfl rfl rfl (by kernel_rfl) (Nat.le_of_ble_eq_true rfl) rfl ?_ | refine Hp.wp_store 3 sh rfl rfl rfl rfl (by kernel_rfl) (Nat.le_of_ble_eq_true rfl) rfl ?_ | refine Hp.wp_store 4 sh rfl rfl rfl rfl (by kernel_rfl) (Nat.le_of_ble_eq_true rfl) rfl ?_ | refine Hp.wp_store 5 sh rfl rfl rfl rfl (by kernel_rfl) (Nat.le_of_ble_eq_true rfl) rfl ?_ | refine Hp.wp_store 6 sh rfl rfl rfl rfl (by kernel_rfl) (Nat.le_of_ble_eq_true rfl) rfl ?_); clear sh; (try clear F); go_simp; intro w1 sh; have F := sh.facts; (try simp only [Hp.Facts, Hp.CellsAt, Nat.reduceAdd, List.cons_append, List.nil_append] at F))
            | fail)
        go_roundw
        case rel => exact ⟨k + 1, ns ++ [n], r', rfl, by go_num, by omega, hr2, HN.out, sh⟩
        case measure => simp [intOf]; omega
      · have heI : (e != 0) = true := by simpa using he
        have HX := Lib.hid (IdxP.getB_err (l := l) (e := e) (by rw [HK.out.2.1, hm, IdxP.takes_err hq he]) he)
        clear hm hq HK
        have F := sh.facts; (try simp only [Hp.Facts, Hp.CellsAt, Nat.reduceAdd, List.cons_append, List.nil_append] at F)
        go_wp2_with (first
            | ((with_reducible refine Hp.wpl_box sh ?_ ?_); exact rfl; clear sh; (try clear F); go_simp; intro b w1 sh; have F := sh.facts; (try simp only [Hp.Facts, Hp.CellsAt, Nat.reduceAdd, List.cons_append, List.nil_append] at F))
            | ((with_reducible refine Hp.wpl_alloc Try.z_blk sh ?_ ?_); exact rfl; clear sh; (try clear F); go_simp; intro b w1 sh; have F := sh.facts; (try simp only [Hp.Facts, Hp.CellsAt, Nat.reduceAdd, List.cons_append, List.nil_append] at F))
            | ((with_reducible refine Hp.wpl_alloc Try.z_numA sh ?_ ?_); exact rfl; clear sh; (try clear F); go_simp; intro b w1 sh; have F := sh.facts; (try simp only [Hp.Facts, Hp.CellsAt, Nat.reduceAdd, List.cons_append, List.nil_append] at F))
            | ((with_reducible refine Hp.atl_store ?_ ?_); exact rfl; (first | refine Hp.wp_store 0 sh rfl rfl rfl rfl (by kernel_rfl) (Nat.le_of_ble_eq_true rfl) rfl ?_ | refine Hp.wp_store 1 sh rfl rfl rfl rfl (by kernel_rfl) (Nat.le_of_ble_eq_true rfl) rfl ?_ | refine Hp.wp_store 2 sh rfl rfl rfl rfl (by kernel_rfl) (Nat.le_of_ble_eq_true rfl) rfl ?_ | refine Hp.wp_store 3 sh rfl rfl rfl rfl (by kernel_rfl) (Nat.le_of_ble_eq_true rfl) rfl ?_ | refine Hp.wp_store 4 sh rfl rfl rfl rfl (by kernel_rfl) (Nat.le_of_ble_eq_true rfl) rfl ?_ | refine Hp.wp_store 5 sh rfl rfl rfl rfl (by kernel_rfl) (Nat.le_of_ble_eq_true rfl) rfl ?_ | refine Hp.wp_store 6 sh rfl rfl rfl rfl (by kernel_rfl) (Nat.le_of_ble_eq_true rfl) rfl ?_); clear sh; (try clear F); go_simp; intro w1 sh; have F := sh.facts; (try simp only [Hp.Facts, Hp.CellsAt, Nat.reduceAdd, List.cons_append, List.nil_append] at F))
            | fail)
        go_fit (KT.out _)
        rintro e w1 ⟨rfl, hb⟩
        replace sh := sh.call hb; clear hb; (try clear F); have F := sh.facts; (try simp only [Hp.Facts, Hp.CellsAt, Nat.reduceAdd, List.cons_append, List.nil_append] at F)
        go_wp2_with (first
            | ((with_reducible refine Hp.wpl_box sh ?_ ?_); exact rfl; clear sh; (try clear F); go_simp; intro b w1 sh; have F := sh.facts; (try simp only [Hp.Facts, Hp.CellsAt, Nat.reduceAdd, List.cons_append, List.nil_append] at F))
            | ((with_reducible refine Hp.wpl_alloc Try.z_blk sh ?_ ?_); exact rfl; clear sh; (try clear F); go_simp; intro b w1 sh; have F := sh.facts; (try simp only [Hp.Facts, Hp.CellsAt, Nat.reduceAdd, List.cons_append, List.nil_append] at F))
            | ((with_reducible refine Hp.wpl_alloc Try.z_numA sh ?_ ?_); exact rfl; clear sh; (try clear F); go_simp; intro b w1 sh; have F := sh.facts; (try simp only [Hp.Facts, Hp.CellsAt, Nat.reduceAdd, List.cons_append, List.nil_append] at F))
            | ((with_reducible refine Hp.atl_store ?_ ?_); exact rfl; (first | refine Hp.wp_store 0 sh rfl rfl rfl rfl (by kernel_rfl) (Nat.le_of_ble_eq_true rfl) rfl ?_ | refine Hp.wp_store 1 sh rfl rfl rfl rfl (by kernel_rfl) (Nat.le_of_ble_eq_true rfl) rfl ?_ | refine Hp.wp_store 2 sh rfl rfl rfl rfl (by kernel_rfl) (Nat.le_of_ble_eq_true rfl) rfl ?_ | refine Hp.wp_store 3 sh rfl rfl rfl rfl (by kernel_rfl) (Nat.le_of_ble_eq_true rfl) rfl ?_ | refine Hp.wp_store 4 sh rfl rfl rfl rfl (by kernel_rfl) (Nat.le_of_ble_eq_true rfl) rfl ?_ | refine Hp.wp_store 5 sh rfl rfl rfl rfl (by kernel_rfl) (Nat.le_of_ble_eq_true rfl) rfl ?_ | refine Hp.wp_store 6 sh rfl rfl rfl rfl (by kernel_rfl) (Nat.le_of_ble_eq_true rfl) rfl ?_); clear sh; (try clear F); go_simp; intro w1 sh; have F := sh.facts; (try simp only [Hp.Facts, Hp.CellsAt, Nat.reduceAdd, List.cons_append, List.nil_append] at F))
            | fail)
        exact bodyPost_ret (Hp.res_ctt rfl rfl (sh.load 1 rfl (by kernel_rfl) (by kernel_rfl))) rfl (by rw [HX.out]; exact ⟨rfl, sh.below⟩)
    · obtain rfl : k = 7 := by omega
      obtain ⟨hlen, hT, hB⟩ := HK.out
      have HT := Lib.hid (show IdxP.takes 7 l = (ns, r, 0) by rw [hT]; simp [IdxP.takes])
      clear hT HK
      match ns, hlen with
      | [n0, n1, n2, n3, n4, n5, n6], _ =>
        have q0 := hB n0 (by simp); have q1 := hB n1 (by simp); have q2 := hB n2 (by simp); have q3 := hB n3 (by simp)
        have q4 := hB n4 (by simp); have q5 := hB n5 (by simp); have q6 := hB n6 (by simp)
        clear hB
        have wr := wr
        replace sh : Hp.Sh w _ [(bn, #[.int .u64 (n0 : Nat), .int .u64 (n1 : Nat), .int .u64 (n2 : Nat), .int .u64 (n3 : Nat), .int .u64 (n4 : Nat), .int .u64 (n5 : Nat), .int .u64 (n6 : Nat)], 85), (b2, #[.int .i64 0, .int .i64 0, .int .u64 0, .int .i64 0, .int .i64 0, .int .u64 0, .int .u64 0], 28)] (fun _ => True) := sh
        have F := sh.facts; (try simp only [Hp.Facts, Hp.CellsAt, Nat.reduceAdd, List.cons_append, List.nil_append] at F)
        go_wp2_with (first
            | ((with_reducible refine Hp.wpl_box sh ?_ ?_); exact rfl; clear sh; (try clear F); go_simp; intro b w1 sh; have F := sh.facts; (try simp only [Hp.Facts, Hp.CellsAt, Nat.reduceAdd, List.cons_append, List.nil_append] at F))
            | ((with_reducible refine Hp.wpl_alloc Try.z_blk sh ?_ ?_); exact rfl; clear sh; (try clear F); go_simp; intro b w1 sh; have F := sh.facts; (try simp only [Hp.Facts, Hp.CellsAt, Nat.reduceAdd, List.cons_append, List.nil_append] at F))
            | ((with_reducible refine Hp.wpl_alloc Try.z_numA sh ?_ ?_); exact rfl; clear sh; (try clear F); go_simp; intro b w1 sh; have F := sh.facts; (try simp only [Hp.Facts, Hp.CellsAt, Nat.reduceAdd, List.cons_append, List.nil_append] at F))
            | ((with_reducible refine Hp.atl_store ?_ ?_); exact rfl; (first | refine Hp.wp_store 0 sh rfl rfl rfl rfl (by kernel_rfl) (Nat.le_of_ble_eq_true rfl) rfl ?_ | refine Hp.wp_store 1 sh rfl rfl rfl rfl (by kernel_rfl) (Nat.le_of_ble_eq_true rfl) rfl ?_ | refine Hp.wp_store 2 sh rfl rfl rfl rfl (by kernel_rfl) (Nat.le_of_ble_eq_true rfl) rfl ?_ | refine Hp.wp_store 3 sh rfl rfl rfl rfl (by kernel_rfl) (Nat.le_of_ble_eq_true rfl) rfl ?_ | refine Hp.wp_store 4 sh rfl rfl rfl rfl (by kernel_rfl) (Nat.le_of_ble_eq_true rfl) rfl ?_ | refine Hp.wp_store 5 sh rfl rfl rfl rfl (by kernel_rfl) (Nat.le_of_ble_eq_true rfl) rfl ?_ | refine Hp.wp_store 6 sh rfl rfl rfl rfl (by kernel_rfl) (Nat.le_of_ble_eq_true rfl) rfl ?_); clear sh; (try clear F); go_simp; intro w1 sh; have F := sh.facts; (try simp only [Hp.Facts, Hp.CellsAt, Nat.reduceAdd, List.cons_append, List.nil_append] at F))
            | fail)
        go_loopw [40] (fun i wr => ∃ k : Nat, i = .int .i64 k ∧ k ≤ 4 ∧ ((0 < k → ¬ 9223372036854775807 < n0) ∧ (1 < k → ¬ 9223372036854775807 < n1) ∧ (2 < k → ¬ 9223372036854775807 < n3) ∧ (3 < k → ¬ 9223372036854775807 < n4)) ∧ Hp.Sh w wr [(bn, #[.int .u64 (n0 : Nat), .int .u64 (n1 : Nat), .int .u64 (n2 : Nat), .int .u64 (n3 : Nat), .int .u64 (n4 : Nat), .int .u64 (n5 : Nat), .int .u64 (n6 : Nat)], 85), (b2, #[.int .i64 0, .int .i64 0, .int .u64 0, .int .i64 0, .int .i64 0, .int .u64 0, .int .u64 0], 28)] (fun _ => True)) (fun i _ => 4 - (intOf i).toNat)
        case atStart => exact ⟨0, rfl, by omega, by omega, sh⟩
        case round =>
          clear sh F
          obtain ⟨k, rfl, hk, hnb, sh⟩ := hrel
          rcases (show k = 0 ∨ k = 1 ∨ k = 2 ∨ k = 3 ∨ k = 4 by omega) with rfl | rfl | rfl | rfl | rfl
          · by_cases hb : 9223372036854775807 < n0
            · have HX := Lib.hid (show IdxP.getB l = (QryP.zeroB, [], 3) by rw [IdxP.getB_ok HT.out]; unfold IdxP.bOf; rw [if_pos (show IdxP.bigN [n0, n1, n2, n3, n4, n5, n6] = true from decide_eq_true (by simp only [List.getD_cons_zero, List.getD_cons_succ]; omega))])
              have hbI : (9223372036854775807 : Int) < ((n0 : Nat) : Int) := by omega
              have hix := IdxP.ix0 (n0 : Int) (n1 : Int) (n3 : Int) (n4 : Int)
              have F := sh.facts; (try simp only [Hp.Facts, Hp.CellsAt, Nat.reduceAdd, List.cons_append, List.nil_append] at F)
              go_wp2_with (first
                  | ((with_reducible refine Hp.wpl_box sh ?_ ?_); exact rfl; clear sh; (try clear F); go_simp; intro b w1 sh; have F := sh.facts; (try simp only [Hp.Facts, Hp.CellsAt, Nat.reduceAdd, List.cons_append, List.nil_append] at F))
                  | ((with_reducible refine Hp.wpl_alloc Try.z_blk sh ?_ ?_); exact rfl; clear sh; (try clear F); go_simp; intro b w1 sh; have F := sh.facts; (try simp only [Hp.Facts, Hp.CellsAt, Nat.reduceAdd, List.cons_append, List.nil_append] at F))
                  | ((with_reducible refine Hp.wpl_alloc Try.z_numA sh ?_ ?_); exact rfl; clear sh; (try clear F); go_simp; intro b w1 sh; have F := sh.facts; (try simp only [Hp.Facts, Hp.CellsAt, Nat.reduceAdd, List.cons_append, List.nil_append] at F))
                  | ((with_reducible refine Hp.atl_store ?_ ?_); exact rfl; (first | refine Hp.wp_store 0 sh rfl rfl rfl rfl (by kernel_rfl) (Nat.le_of_ble_eq_true rfl) rfl ?_ | refine Hp.wp_store 1 sh rfl rfl rfl rfl (by kernel_rfl) (Nat.le_of_ble_eq_true rfl) rfl ?_ | refine Hp.wp_store 2 sh rfl rfl rfl rfl (by kernel_rfl) (Nat.le_of_ble_eq_true rfl) rfl ?_ | refine Hp.wp_store 3 sh rfl rfl rfl rfl (by kernel_rfl) (Nat.le_of_ble_eq_true rfl) rfl ?_ | refine Hp.wp_store 4 sh rfl rfl rfl rfl (by kernel_rfl) (Nat.le_of_ble_eq_true rfl) rfl ?_ | refine Hp.wp_store 5 sh rfl rfl rfl rfl (by kernel_rfl) (Nat.le_of_ble_eq_true rfl) rfl ?_ | refine Hp.wp_store 6 sh rfl rfl rfl rfl (by kernel_rfl) (Nat.le_of_ble_eq_true rfl) rfl ?_); clear sh; (try clear F); go_simp; intro w1 sh; have F := sh.facts; (try simp only [Hp.Facts, Hp.CellsAt, Nat.reduceAdd, List.cons_append, List.nil_append] at F))
                  | fail)
              exact bodyPost_ret (Hp.res_ctt rfl rfl (sh.load 1 rfl (by kernel_rfl) (by kernel_rfl))) rfl (by rw [HX.out]; exact ⟨rfl, sh.below⟩)
            · have hbI : ¬ (9223372036854775807 : Int) < ((n0 : Nat) : Int) := by omega
              have hix := IdxP.ix0 (n0 : Int) (n1 : Int) (n3 : Int) (n4 : Int)
              have F := sh.facts; (try simp only [Hp.Facts, Hp.CellsAt, Nat.reduceAdd, List.cons_append, List.nil_append] at F)
              go_wp2_with (first
                  | ((with_reducible refine Hp.wpl_box sh ?_ ?_); exact rfl; clear sh; (try clear F); go_simp; intro b w1 sh; have F := sh.facts; (try simp only [Hp.Facts, Hp.CellsAt, Nat.reduceAdd, List.cons_append, List.nil_append] at F))
                  | ((with_reducible refine Hp.wpl_alloc Try.z_blk sh ?_ ?_); exact rfl; clear sh; (try clear F); go_simp; intro b w1 sh; have F := sh.facts; (try simp only [Hp.Facts, Hp.CellsAt, Nat.reduceAdd, List.cons_append, List.nil_append] at F))
                  | ((with_reducible refine Hp.wpl_alloc Try.z_numA sh ?_ ?_); exact rfl; clear sh; (try clear F); go_simp; intro b w1 sh; have F := sh.facts; (try simp only [Hp.Facts, Hp.CellsAt, Nat.reduceAdd, List.cons_append, List.nil_append] at F))
                  | ((with_reducible refine Hp.atl_store ?_ ?_); exact rfl; (first | refine Hp.wp_store 0 sh rfl rfl rfl rfl (by kernel_rfl) (Nat.le_of_ble_eq_true rfl) rfl ?_ | refine Hp.wp_store 1 sh rfl rfl rfl rfl (by kernel_rfl) (Nat.le_of_ble_eq_true rfl) rfl ?_ | refine Hp.wp_store 2 sh rfl rfl rfl rfl (by kernel_rfl) (Nat.le_of_ble_eq_true rfl) rfl ?_ | refine Hp.wp_store 3 sh rfl rfl rfl rfl (by kernel_rfl) (Nat.le_of_ble_eq_true rfl) rfl ?_ | refine Hp.wp_store 4 sh rfl rfl rfl rfl (by kernel_rfl) (Nat.le_of_ble_eq_true rfl) rfl ?_ | refine Hp.wp_store 5 sh rfl rfl rfl rfl (by kernel_rfl) (Nat.le_of_ble_eq_true rfl) rfl ?_ | refine Hp.wp_store 6 sh rfl rfl rfl rfl (by kernel_rfl) (Nat.le_of_ble_eq_true rfl) rfl ?_); clear sh; (try clear F); go_simp; intro w1 sh; have F := sh.facts; (try simp only [Hp.Facts, Hp.CellsAt, Nat.reduceAdd, List.cons_append, List.nil_append] at F))
                  | fail)
              go_roundw
              case rel => exact ⟨1, by go_num, by omega, by omega, sh⟩
              case measure => simp [intOf]
          · by_cases hb : 9223372036854775807 < n1
            · have HX := Lib.hid (show IdxP.getB l = (QryP.zeroB, [], 3) by rw [IdxP.getB_ok HT.out]; unfold IdxP.bOf; rw [if_pos (show IdxP.bigN [n0, n1, n2, n3, n4, n5, n6] = true from decide_eq_true (by simp only [List.getD_cons_zero, List.getD_cons_succ]; omega))])
              have hbI : (9223372036854775807 : Int) < ((n1 : Nat) : Int) := by omega
              have hix := IdxP.ix1 (n0 : Int) (n1 : Int) (n3 : Int) (n4 : Int)
              have F := sh.facts; (try simp only [Hp.Facts, Hp.CellsAt, Nat.reduceAdd, List.cons_append, List.nil_append] at F)
              go_wp2_with (first
                  | ((with_reducible refine Hp.wpl_box sh ?_ ?_); exact rfl; clear sh; (try clear F); go_simp; intro b w1 sh; have F := sh.facts; (try simp only [Hp.Facts, Hp.CellsAt, Nat.reduceAdd, List.cons_append, List.nil_append] at F))
                  | ((with_reducible refine Hp.wpl_alloc Try.z_blk sh ?_ ?_); exact rfl; clear sh; (try clear F); go_simp; intro b w1 sh; have F := sh.facts; (try simp only [Hp.Facts, Hp.CellsAt, Nat.reduceAdd, List.cons_append, List.nil_append] at F))
                  | ((with_reducible refine Hp.wpl_alloc Try.z_numA sh ?_ ?_); exact rfl; clear sh; (try clear F); go_simp; intro b w1 sh; have F := sh.facts; (try simp only [Hp.Facts, Hp.CellsAt, Nat.reduceAdd, List.cons_append, List.nil_append] at F))
                  | ((with_reducible refine Hp.atl_store ?_ ?_); exact rfl; (first | refine Hp.wp_store 0 sh rfl rfl rfl rfl (by kernel_rfl) (Nat.le_of_ble_eq_true rfl) rfl ?_ | refine Hp.wp_store 1 sh rfl rfl rfl rfl (by kernel_rfl) (Nat.le_of_ble_eq_true rfl) rfl ?_ | refine Hp.wp_store 2 sh rfl rfl rfl rfl (by kernel_rfl) (Nat.le_of_ble_eq_true rfl) rfl ?_ | refine Hp.wp_store 3 sh rfl rfl rfl rfl (by kernel_rfl) (Nat.le_of_ble_eq_true rfl) rfl ?_ | refine Hp.wp_store 4 sh rfl rfl rfl rfl (by kernel_rfl) (Nat.le_of_ble_eq_true rfl) rfl ?_ | refine Hp.wp_store 5 sh rfl rfl rfl rfl (by kernel_rfl) (Nat.le_of_ble_eq_true rfl) rfl ?_ | refine Hp.wp_store 6 sh rfl rfl rfl rfl (by kernel_rfl) (Nat.le_of_ble_eq_true rfl) rfl ?_); clear sh; (try clear F); go_simp; intro w1 sh; have F := sh.facts; (try simp only [Hp.Facts, Hp.CellsAt, Nat.reduceAdd, List.cons_append, List.nil_append] at F))
                  | fail)
              exact bodyPost_ret (Hp.res_ctt rfl rfl (sh.load 1 rfl (by kernel_rfl) (by kernel_rfl))) rfl (by rw [HX.out]; exact ⟨rfl, sh.below⟩)
            · have hbI : ¬ (9223372036854775807 : Int) < ((n1 : Nat) : Int) := by omega
              have hix := IdxP.ix1 (n0 : Int) (n1 : Int) (n3 : Int) (n4 : Int)
              have F := sh.facts; (try simp only [Hp.Facts, Hp.CellsAt, Nat.reduceAdd, List.cons_append, List.nil_append] at F)
              go_wp2_with (first
                  | ((with_reducible refine Hp.wpl_box sh ?_ ?_); exact rfl; clear sh; (try clear F); go_simp; intro b w1 sh; have F := sh.facts; (try simp only [Hp.Facts, Hp.CellsAt, Nat.reduceAdd, List.cons_append, List.nil_append] at F))
                  | ((with_reducible refine Hp.wpl_alloc Try.z_blk sh ?_ ?_); exact rfl; clear sh; (try clear F); go_simp; intro b w1 sh; have F := sh.facts; (try simp only [Hp.Facts, Hp.CellsAt, Nat.reduceAdd, List.cons_append, List.nil_append] at F))
                  | ((with_reducible refine Hp.wpl_alloc Try.z_numA sh ?_ ?_); exact rfl; clear sh; (try clear F); go_simp; intro b w1 sh; have F := sh.facts; (try simp only [Hp.Facts, Hp.CellsAt, Nat.reduceAdd, List.cons_append, List.nil_append] at F))
                  | ((with_reducible refine Hp.atl_store ?_ ?_); exact rfl; (first | refine Hp.wp_store 0 sh rfl rfl rfl rfl (by kernel_rfl) (Nat.le_of_ble_eq_true rfl) rfl ?_ | refine Hp.wp_store 1 sh rfl rfl rfl rfl (by kernel_rfl) (Nat.le_of_ble_eq_true rfl) rfl ?_ | refine Hp.wp_store 2 sh rfl rfl rfl rfl (by kernel_rfl) (Nat.le_of_ble_eq_true rfl) rfl ?_ | refine Hp.wp_store 3 sh rfl rfl rfl rfl (by kernel_rfl) (Nat.le_of_ble_eq_true rfl) rfl ?_ | refine Hp.wp_store 4 sh rfl rfl rfl rfl (by kernel_rfl) (Nat.le_of_ble_eq_true rfl) rfl ?_ | refine Hp.wp_store 5 sh rfl rfl rfl rfl (by kernel_rfl) (Nat.le_of_ble_eq_true rfl) rfl ?_ | refine Hp.wp_store 6 sh rfl rfl rfl rfl (by kernel_rfl) (Nat.le_of_ble_eq_true rfl) rfl ?_); clear sh; (try clear F); go_simp; intro w1 sh; have F := sh.facts; (try simp only [Hp.Facts, Hp.CellsAt, Nat.reduceAdd, List.cons_append, List.nil_append] at F))
                  | fail)
              go_roundw
              case rel => exact ⟨2, by go_num, by omega, by omega, sh⟩
              case measure => simp [intOf]
          · by_cases hb : 9223372036854775807 < n3
            · have HX := Lib.hid (show IdxP.getB l = (QryP.zeroB, [], 3) by rw [IdxP.getB_ok HT.out]; unfold IdxP.bOf; rw [if_pos (show IdxP.bigN [n0, n1, n2, n3, n4, n5, n6] = true from decide_eq_true (by simp only [List.getD_cons_zero, List.getD_cons_succ]; omega))])
              have hbI : (9223372036854775807 : Int) < ((n3 : Nat) : Int) := by omega
              have hix := IdxP.ix2 (n0 : Int) (n1 : Int) (n3 : Int) (n4 : Int)
              have F := sh.facts; (try simp only [Hp.Facts, Hp.CellsAt, Nat.reduceAdd, List.cons_append, List.nil_append] at F)
              go_wp2_with (first
                  | ((with_reducible refine Hp.wpl_box sh ?_ ?_); exact rfl; clear sh; (try clear F); go_simp; intro b w1 sh; have F := sh.facts; (try simp only [Hp.Facts, Hp.CellsAt, Nat.reduceAdd, List.cons_append, List.nil_append] at F))
                  | ((with_reducible refine Hp.wpl_alloc Try.z_blk sh ?_ ?_); exact rfl; clear sh; (try clear F); go_simp; intro b w1 sh; have F := sh.facts; (try simp only [Hp.Facts, Hp.CellsAt, Nat.reduceAdd, List.cons_append, List.nil_append] at F))
                  | ((with_reducible refine Hp.wpl_alloc Try.z_numA sh ?_ ?_); exact rfl; clear sh; (try clear F); go_simp; intro b w1 sh; have F := sh.facts; (try simp only [Hp.Facts, Hp.CellsAt, Nat.reduceAdd, List.cons_append, List.nil_append] at F))
                  | ((with_reducible refine Hp.atl_store ?_ ?_); exact rfl; (first | refine Hp.wp_store 0 sh rfl rfl rfl rfl (by kernel_rfl) (Nat.le_of_ble_eq_true rfl) rfl ?_ | refine Hp.wp_store 1 sh rfl rfl rfl rfl (by kernel_rfl) (Nat.le_of_ble_eq_true rfl) rfl ?_ | refine Hp.wp_store 2 sh rfl rfl rfl rfl (by kernel_rfl) (Nat.le_of_ble_eq_true rfl) rfl ?_ | refine Hp.wp_store 3 sh rfl rfl rfl rfl (by kernel_rfl) (Nat.le_of_ble_eq_true rfl) rfl ?_ | refine Hp.wp_store 4 sh rfl rfl rfl rfl (by kernel_rfl) (Nat.le_of_ble_eq_true rfl) rfl ?_ | refine Hp.wp_store 5 sh rfl rfl rfl rfl (by kernel_rfl) (Nat.le_of_ble_eq_true rfl) rfl ?_ | refine Hp.wp_store 6 sh rfl rfl rfl rfl (by kernel_rfl) (Nat.le_of_ble_eq_true rfl) rfl ?_); clear sh; (try clear F); go_simp; intro w1 sh; have F := sh.facts; (try simp only [Hp.Facts, Hp.CellsAt, Nat.reduceAdd, List.cons_append, List.nil_append] at F))
                  | fail)
              exact bodyPost_ret (Hp.res_ctt rfl rfl (sh.load 1 rfl (by kernel_rfl) (by kernel_rfl))) rfl (by rw [HX.out]; exact ⟨rfl, sh.below⟩)
            · have hbI : ¬ (9223372036854775807 : Int) < ((n3 : Nat) : Int) := by omega
              have hix := IdxP.ix2 (n0 : Int) (n1 : Int) (n3 : Int) (n4 : Int)
              have F := sh.facts; (try simp only [Hp.Facts, Hp.CellsAt, Nat.reduceAdd, List.cons_append, List.nil_append] at F)
              go_wp2_with (first
                  | ((with_reducible refine Hp.wpl_box sh ?_ ?_); exact rfl; clear sh; (try clear F); go_simp; intro b w1 sh; have F := sh.facts; (try simp only [Hp.Facts, Hp.CellsAt, Nat.reduceAdd, List.cons_append, List.nil_append] at F))
                  | ((with_reducible refine Hp.wpl_alloc Try.z_blk sh ?_ ?_); exact rfl; clear sh; (try clear F); go_simp; intro b w1 sh; have F := sh.facts; (try simp only [Hp.Facts, Hp.CellsAt, Nat.reduceAdd, List.cons_append, List.nil_append] at F))
                  | ((with_reducible refine Hp.wpl_alloc Try.z_numA sh ?_ ?_); exact rfl; clear sh; (try clear F); go_simp; intro b w1 sh; have F := sh.facts; (try simp only [Hp.Facts, Hp.CellsAt, Nat.reduceAdd, List.cons_append, List.nil_append] at F))
                  | ((with_reducible refine Hp.atl_store ?_ ?_); exact rfl; (first | refine Hp.wp_store 0 sh rfl rfl rfl rfl (by kernel_rfl) (Nat.le_of_ble_eq_true rfl) rfl ?_ | refine Hp.wp_store 1 sh rfl rfl rfl rfl (by kernel_rfl) (Nat.le_of_ble_eq_true rfl) rfl ?_ | refine Hp.wp_store 2 sh rfl rfl rfl rfl (by kernel_rfl) (Nat.le_of_ble_eq_true rfl) rfl ?_ | refine Hp.wp_store 3 sh rfl rfl rfl rfl (by kernel_rfl) (Nat.le_of_ble_eq_true rfl) rfl ?_ | refine Hp.wp_store 4 sh rfl rfl rfl rfl (by kernel_rfl) (Nat.le_of_ble_eq_true rfl) rfl ?_ | refine Hp.wp_store 5 sh rfl rfl rfl rfl (by kernel_rfl) (Nat.le_of_ble_eq_true rfl) rfl ?_ | refine Hp.wp_store 6 sh rfl rfl rfl rfl (by kernel_rfl) (Nat.le_of_ble_eq_true rfl) rfl ?_); clear sh; (try clear F); go_simp; intro w1 sh; have F := sh.facts; (try simp only [Hp.Facts, Hp.CellsAt, Nat.reduceAdd, List.cons_append, List.nil_append] at F))
                  | fail)
              go_roundw
              case rel => exact ⟨3, by go_num, by omega, by omega, sh⟩
              case measure => simp [intOf]
          · by_cases hb : 9223372036854775807 < n4
            · have HX := Lib.hid (show IdxP.getB l = (QryP.zeroB, [], 3) by rw [IdxP.getB_ok HT.out]; unfold IdxP.bOf; rw [if_pos (show IdxP.bigN [n0, n1, n2, n3, n4, n5, n6] = true from decide_eq_true (by simp only [List.getD_cons_zero, List.getD_cons_succ]; omega))])
              have hbI : (9223372036854775807 : Int) < ((n4 : Nat) : Int) := by omega
              have hix := IdxP.ix3 (n0 : Int) (n1 : Int) (n3 : Int) (n4 : Int)
              have F := sh.facts; (try simp only [Hp.Facts, Hp.CellsAt, Nat.reduceAdd, List.cons_append, List.nil_append] at F)
              go_wp2_with (first
                  | ((with_reducible refine Hp.wpl_box sh ?_ ?_); exact rfl; clear sh; (try clear F); go_simp; intro b w1 sh; have F := sh.facts; (try simp only [Hp.Facts, Hp.CellsAt, Nat.reduceAdd, List.cons_append, List.nil_append] at F))
                  | ((with_reducible refine Hp.wpl_alloc Try.z_blk sh ?_ ?_); exact rfl; clear sh; (try clear F); go_simp; intro b w1 sh; have F := sh.facts; (try simp only [Hp.Facts, Hp.CellsAt, Nat.reduceAdd, List.cons_append, List.nil_append] at F))
                  | ((with_reducible refine Hp.wpl_alloc Try.z_numA sh ?_ ?_); exact rfl; clear sh; (try clear F); go_simp; intro b w1 sh; have F := sh.facts; (try simp only [Hp.Facts, Hp.CellsAt, Nat.reduceAdd, List.cons_append, List.nil_append] at F))
                  | ((with_reducible refine Hp.atl_store ?_ ?_); exact rfl; (first | refine Hp.wp_store 0 sh rfl rfl rfl rfl (by kernel_rfl) (Nat.le_of_ble_eq_true rfl) rfl ?_ | refine Hp.wp_store 1 sh rfl rfl rfl rfl (by kernel_rfl) (Nat.le_of_ble_eq_true rfl) rfl ?_ | refine Hp.wp_store 2 sh rfl rfl rfl rfl (by kernel_rfl) (Nat.le_of_ble_eq_true rfl) rfl ?_ | refine Hp.wp_store 3 sh rfl rfl rfl rfl (by kernel_rfl) (Nat.le_of_ble_eq_true rfl) rfl ?_ | refine Hp.wp_store 4 sh rfl rfl rfl rfl (by kernel_rfl) (Nat.le_of_ble_eq_true rfl) rfl ?_ | refine Hp.wp_store 5 sh rfl rfl rfl rfl (by kernel_rfl) (Nat.le_of_ble_eq_true rfl) rfl ?_ | refine Hp.wp_store 6 sh rfl rfl rfl rfl (by kernel_rfl) (Nat.le_of_ble_eq_true rfl) rfl ?_); clear sh; (try clear F); go_simp; intro w1 sh; have F := sh.facts; (try simp only [Hp.Facts, Hp.CellsAt, Nat.reduceAdd, List.cons_append, List.nil_append] at F))
                  | fail)
              exact bodyPost_ret (Hp.res_ctt rfl rfl (sh.load 1 rfl (by kernel_rfl) (by kernel_rfl))) rfl (by rw [HX.out]; exact ⟨rfl, sh.below⟩)
            · have hbI : ¬ (9223372036854775807 : Int) < ((n4 : Nat) : Int) := by omega
              have hix := IdxP.ix3 (n0 : Int) (n1 : Int) (n3 : Int) (n4 : Int)
              have F := sh.facts; (try simp only [Hp.Facts, Hp.CellsAt, Nat.reduceAdd, List.cons_append, List.nil_append] at F)
              go_wp2_with (first
                  | ((with_reducible refine Hp.wpl_box sh ?_ ?_); exact rfl; clear sh; (try clear F); go_simp; intro b w1 sh; have F := sh.facts; (try simp only [Hp.Facts, Hp.CellsAt, Nat.reduceAdd, List.cons_append, List.nil_append] at F))
                  | ((with_reducible refine Hp.wpl_alloc Try.z_blk sh ?_ ?_); exact rfl; clear sh; (try clear F); go_simp; intro b w1 sh; have F := sh.facts; (try simp only [Hp.Facts, Hp.CellsAt, Nat.reduceAdd, List.cons_append, List.nil_append] at F))
                  | ((with_reducible refine Hp.wpl_alloc Try.z_numA sh ?_ ?_); exact rfl; clear sh; (try clear F); go_simp; intro b w1 sh; have F := sh.facts; (try simp only [Hp.Facts, Hp.CellsAt, Nat.reduceAdd, List.cons_append, List.nil_append] at F))
                  | ((with_reducible refine Hp.atl_store ?_ ?_); exact rfl; (first | refine Hp.wp_store 0 sh rfl rfl rfl rfl (by kernel_rfl) (Nat.le_of_ble_eq_true rfl) rfl ?_ | refine Hp.wp_store 1 sh rfl rfl rfl rfl (by kernel_rfl) (Nat.le_of_ble_eq_true rfl) rfl ?_ | refine Hp.wp_store 2 sh rfl rfl rfl rfl (by kernel_rfl) (Nat.le_of_ble_eq_true rfl) rfl ?_ | refine Hp.wp_store 3 sh rfl rfl rfl rfl (by kernel_rfl) (Nat.le_of_ble_eq_true rfl) rfl ?_ | refine Hp.wp_store 4 sh rfl rfl rfl rfl (by kernel_rfl) (Nat.le_of_ble_eq_true rfl) rfl ?_ | refine Hp.wp_store 5 sh rfl rfl rfl rfl (by kernel_rfl) (Nat.le_of_ble_eq_true rfl) rfl ?_ | refine Hp.wp_store 6 sh rfl rfl rfl rfl (by kernel_rfl) (Nat.le_of_ble_eq_true rfl) rfl ?_); clear sh; (try clear F); go_simp; intro w1 sh; have F := sh.facts; (try simp only [Hp.Facts, Hp.CellsAt, Nat.reduceAdd, List.cons_append, List.nil_append] at F))
                  | fail)
              go_roundw
              case rel => exact ⟨4, by go_num, by omega, by omega, sh⟩
              case measure => simp [intOf]
          · have g0 : IntKind.i64.wrap (n0 : Int) = (n0 : Int) := IntWalk.i64_in _ (by omega)
            have g1 : IntKind.i64.wrap (n1 : Int) = (n1 : Int) := IntWalk.i64_in _ (by omega)
            have g3 : IntKind.i64.wrap (n3 : Int) = (n3 : Int) := IntWalk.i64_in _ (by omega)
            have g4 : IntKind.i64.wrap (n4 : Int) = (n4 : Int) := IntWalk.i64_in _ (by omega)
            have hbig : IdxP.bigN [n0, n1, n2, n3, n4, n5, n6] = false := decide_eq_false (by simp only [List.getD_cons_zero, List.getD_cons_succ]; omega)
            have KF := Lib.hid (fun W => ifit (n0 : Int) (n1 : Int) (n2 : Int) (n3 : Int) (n4 : Int) (n5 : Int) (n6 : Int) W)
            have hgb : IdxP.getB l = if IdxP.fitB ((n0 : Int), (n1 : Int), (n2 : Int), (n3 : Int), (n4 : Int), (n5 : Int), (n6 : Int)) = true then (((n0 : Int), (n1 : Int), (n2 : Int), (n3 : Int), (n4 : Int), (n5 : Int), (n6 : Int)), r, 0) else (QryP.zeroB, [], 3) := by
              rw [IdxP.getB_ok HT.out]; unfold IdxP.bOf; rw [hbig]; rfl
            cases hf : IdxP.fitB ((n0 : Int), (n1 : Int), (n2 : Int), (n3 : Int), (n4 : Int), (n5 : Int), (n6 : Int)) with
            | true =>
              rw [hf] at KF
              rw [hf, if_pos rfl] at hgb
              have HX := Lib.hid hgb
              clear hgb hf hbig hnb
              have F := sh.facts; (try simp only [Hp.Facts, Hp.CellsAt, Nat.reduceAdd, List.cons_append, List.nil_append] at F)
              have tok_b12 : True := trivial
              go_wp2_with (first
                  | ((have tok := tok_b12); clear tok tok_b12; (first | (with_reducible refine Hp.wpl_box sh ?_ ?_) | (with_reducible refine Hp.wpl_alloc Try.z_blk sh ?_ ?_) | (with_reducible refine Hp.wpl_alloc Try.z_numA sh ?_ ?_)); exact rfl; clear sh; (try clear F); go_simp; intro b12 w1 sh; have F := sh.facts; (try simp only [Hp.Facts, Hp.CellsAt, Nat.reduceAdd, List.cons_append, List.nil_append] at F))
                  | ((with_reducible refine Hp.wpl_box sh ?_ ?_); exact rfl; clear sh; (try clear F); go_simp; intro b w1 sh; have F := sh.facts; (try simp only [Hp.Facts, Hp.CellsAt, Nat.reduceAdd, List.cons_append, List.nil_append] at F))
                  | ((with_reducible refine Hp.wpl_alloc Try.z_blk sh ?_ ?_); exact rfl; clear sh; (try clear F); go_simp; intro b w1 sh; have F := sh.facts; (try simp only [Hp.Facts, Hp.CellsAt, Nat.reduceAdd, List.cons_append, List.nil_append] at F))
                  | ((with_reducible refine Hp.wpl_alloc Try.z_numA sh ?_ ?_); exact rfl; clear sh; (try clear F); go_simp; intro b w1 sh; have F := sh.facts; (try simp only [Hp.Facts, Hp.CellsAt, Nat.reduceAdd, List.cons_append, List.nil_append] at F))
                  | ((with_reducible refine Hp.atl_store ?_ ?_); exact rfl; (first | refine Hp.wp_store 0 sh rfl rfl rfl rfl (by kernel_rfl) (Nat.le_of_ble_eq_true rfl) rfl ?_ | refine Hp.wp_store 1 sh rfl rfl rfl rfl (by kernel_rfl) (Nat.le_of_ble_eq_true rfl) rfl ?_ | refine Hp.wp_store 2 sh rfl rfl rfl rfl (by kernel_rfl) (Nat.le_of_ble_eq_true rfl) rfl ?_ | refine Hp.wp_store 3 sh rfl rfl rfl rfl (by kernel_rfl) (Nat.le_of_ble_eq_true rfl) rfl ?_ | refine Hp.wp_store 4 sh rfl rfl rfl rfl (by kernel_rfl) (Nat.le_of_ble_eq_true rfl) rfl ?_ | refine Hp.wp_store 5 sh rfl rfl rfl rfl (by kernel_rfl) (Nat.le_of_ble_eq_true rfl) rfl ?_ | refine Hp.wp_store 6 sh rfl rfl rfl rfl (by kernel_rfl) (Nat.le_of_ble_eq_true rfl) rfl ?_); clear sh; (try clear F); go_simp; intro w1 sh; have F := sh.facts; (try simp only [Hp.Facts, Hp.CellsAt, Nat.reduceAdd, List.cons_append, List.nil_append] at F))
                  | fail)
              go_fit (KF.out _)
              rintro e w1 ⟨rfl, hb9⟩; replace sh := sh.call hb9; clear hb9
              (try clear F); (have F := sh.facts; (try simp only [Hp.Facts, Hp.CellsAt, Nat.reduceAdd, List.cons_append, List.nil_append] at F))
              go_wp2_with (first
                  | ((with_reducible refine Hp.wpl_box sh ?_ ?_); exact rfl; clear sh; (try clear F); go_simp; intro b w1 sh; have F := sh.facts; (try simp only [Hp.Facts, Hp.CellsAt, Nat.reduceAdd, List.cons_append, List.nil_append] at F))
                  | ((with_reducible refine Hp.wpl_alloc Try.z_blk sh ?_ ?_); exact rfl; clear sh; (try clear F); go_simp; intro b w1 sh; have F := sh.facts; (try simp only [Hp.Facts, Hp.CellsAt, Nat.reduceAdd, List.cons_append, List.nil_append] at F))
                  | ((with_reducible refine Hp.wpl_alloc Try.z_numA sh ?_ ?_); exact rfl; clear sh; (try clear F); go_simp; intro b w1 sh; have F := sh.facts; (try simp only [Hp.Facts, Hp.CellsAt, Nat.reduceAdd, List.cons_append, List.nil_append] at F))
                  | ((with_reducible refine Hp.atl_store ?_ ?_); exact rfl; (first | refine Hp.wp_store 0 sh rfl rfl rfl rfl (by kernel_rfl) (Nat.le_of_ble_eq_true rfl) rfl ?_ | refine Hp.wp_store 1 sh rfl rfl rfl rfl (by kernel_rfl) (Nat.le_of_ble_eq_true rfl) rfl ?_ | refine Hp.wp_store 2 sh rfl rfl rfl rfl (by kernel_rfl) (Nat.le_of_ble_eq_true rfl) rfl ?_ | refine Hp.wp_store 3 sh rfl rfl rfl rfl (by kernel_rfl) (Nat.le_of_ble_eq_true rfl) rfl ?_ | refine Hp.wp_store 4 sh rfl rfl rfl rfl (by kernel_rfl) (Nat.le_of_ble_eq_true rfl) rfl ?_ | refine Hp.wp_store 5 sh rfl rfl rfl rfl (by kernel_rfl) (Nat.le_of_ble_eq_true rfl) rfl ?_ | refine Hp.wp_store 6 sh rfl rfl rfl rfl (by kernel_rfl) (Nat.le_of_ble_eq_true rfl) rfl ?_); clear sh; (try clear F); go_simp; intro w1 sh; have F := sh.facts; (try simp only [Hp.Facts, Hp.CellsAt, Nat.reduceAdd, List.cons_append, List.nil_append] at F))
                  | fail)
              exact bodyPost_ret (Hp.res_ctt rfl rfl (sh.load 2 rfl (by kernel_rfl) (by kernel_rfl))) rfl (by rw [HX.out]; exact ⟨rfl, sh.below⟩)
            | false =>
              rw [hf] at KF
              rw [hf, if_neg (by decide)] at hgb
              have HX := Lib.hid hgb
              clear hgb hf hbig hnb
              have F := sh.facts; (try simp only [Hp.Facts, Hp.CellsAt, Nat.reduceAdd, List.cons_append, List.nil_append] at F)
              have tok_b12 : True := trivial
              go_wp2_with (first
                  | ((have tok := tok_b12); clear tok tok_b12; (first | (with_reducible refine Hp.wpl_box sh ?_ ?_) | (with_reducible refine Hp.wpl_alloc Try.z_blk sh ?_ ?_) | (with_reducible refine Hp.wpl_alloc Try.z_numA sh ?_ ?_)); exact rfl; clear sh; (try clear F); go_simp; intro b12 w1 sh; have F := sh.facts; (try simp only [Hp.Facts, Hp.CellsAt, Nat.reduceAdd, List.cons_append, List.nil_append] at F))
                  | ((with_reducible refine Hp.wpl_box sh ?_ ?_); exact rfl; clear sh; (try clear F); go_simp; intro b w1 sh; have F := sh.facts; (try simp only [Hp.Facts, Hp.CellsAt, Nat.reduceAdd, List.cons_append, List.nil_append] at F))
                  | ((with_reducible refine Hp.wpl_alloc Try.z_blk sh ?_ ?_); exact rfl; clear sh; (try clear F); go_simp; intro b w1 sh; have F := sh.facts; (try simp only [Hp.Facts, Hp.CellsAt, Nat.reduceAdd, List.cons_append, List.nil_append] at F))
                  | ((with_reducible refine Hp.wpl_alloc Try.z_numA sh ?_ ?_); exact rfl; clear sh; (try clear F); go_simp; intro b w1 sh; have F := sh.facts; (try simp only [Hp.Facts, Hp.CellsAt, Nat.reduceAdd, List.cons_append, List.nil_append] at F))
                  | ((with_reducible refine Hp.atl_store ?_ ?_); exact rfl; (first | refine Hp.wp_store 0 sh rfl rfl rfl rfl (by kernel_rfl) (Nat.le_of_ble_eq_true rfl) rfl ?_ | refine Hp.wp_store 1 sh rfl rfl rfl rfl (by kernel_rfl) (Nat.le_of_ble_eq_true rfl) rfl ?_ | refine Hp.wp_store 2 sh rfl rfl rfl rfl (by kernel_rfl) (Nat.le_of_ble_eq_true rfl) rfl ?_ | refine Hp.wp_store 3 sh rfl rfl rfl rfl (by kernel_rfl) (Nat.le_of_ble_eq_true rfl) rfl ?_ | refine Hp.wp_store 4 sh rfl rfl rfl rfl (by kernel_rfl) (Nat.le_of_ble_eq_true rfl) rfl ?_ | refine Hp.wp_store 5 sh rfl rfl rfl rfl (by kernel_rfl) (Nat.le_of_ble_eq_true rfl) rfl ?_ | refine Hp.wp_store 6 sh rfl rfl rfl rfl (by kernel_rfl) (Nat.le_of_ble_eq_true rfl) rfl ?_); clear sh; (try clear F); go_simp; intro w1 sh; have F := sh.facts; (try simp only [Hp.Facts, Hp.CellsAt, Nat.reduceAdd, List.cons_append, List.nil_append] at F))
                  | fail)
              go_fit (KF.out _)
              rintro e w1 ⟨rfl, hb9⟩; replace sh := sh.call hb9; clear hb9
              (try clear F); (have F := sh.facts; (try simp only [Hp.Facts, Hp.CellsAt, Nat.reduceAdd, List.cons_append, List.nil_append] at F))
              go_wp2_with (first
                  | ((with_reducible refine Hp.wpl_box sh ?_ ?_); exact rfl; clear sh; (try clear F); go_simp; intro b w1 sh; have F := sh.facts; (try simp only [Hp.Facts, Hp.CellsAt, Nat.reduceAdd, List.cons_append, List.nil_append] at F))
                  | ((with_reducible refine Hp.wpl_alloc Try.z_blk sh ?_ ?_); exact rfl; clear sh; (try clear F); go_simp; intro b w1 sh; have F := sh.facts; (try simp only [Hp.Facts, Hp.CellsAt, Nat.reduceAdd, List.cons_append, List.nil_append] at F))
                  | ((with_reducible refine Hp.wpl_alloc Try.z_numA sh ?_ ?_); exact rfl; clear sh; (try clear F); go_simp; intro b w1 sh; have F := sh.facts; (try simp only [Hp.Facts, Hp.CellsAt, Nat.reduceAdd, List.cons_append, List.nil_append] at F))
                  | ((with_reducible refine Hp.atl_store ?_ ?_); exact rfl; (first | refine Hp.wp_store 0 sh rfl rfl rfl rfl (by kernel_rfl) (Nat.le_of_ble_eq_true rfl) rfl ?_ | refine Hp.wp_store 1 sh rfl rfl rfl rfl (by kernel_rfl) (Nat.le_of_ble_eq_true rfl) rfl ?_ | refine Hp.wp_store 2 sh rfl rfl rfl rfl (by kernel_rfl) (Nat.le_of_ble_eq_true rfl) rfl ?_ | refine Hp.wp_store 3 sh rfl rfl rfl rfl (by kernel_rfl) (Nat.le_of_ble_eq_true rfl) rfl ?_ | refine Hp.wp_store 4 sh rfl rfl rfl rfl (by kernel_rfl) (Nat.le_of_ble_eq_true rfl) rfl ?_ | refine Hp.wp_store 5 sh rfl rfl rfl rfl (by kernel_rfl) (Nat.le_of_ble_eq_true rfl) rfl ?_ | refine Hp.wp_store 6 sh rfl rfl rfl rfl (by kernel_rfl) (Nat.le_of_ble_eq_true rfl) rfl ?_); clear sh; (try clear F); go_simp; intro w1 sh; have F := sh.facts; (try simp only [Hp.Facts, Hp.CellsAt, Nat.reduceAdd, List.cons_append, List.nil_append] at F))
                  | fail)
              exact bodyPost_ret (Hp.res_ctt rfl rfl (sh.load 2 rfl (by kernel_rfl) (by kernel_rfl))) rfl (by rw [HX.out]; exact ⟨rfl, sh.below⟩)

end Go.Proofs.Ytedcnoajadnhnaa