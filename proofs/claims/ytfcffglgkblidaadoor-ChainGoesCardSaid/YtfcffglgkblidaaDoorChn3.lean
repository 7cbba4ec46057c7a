
/-
  The walks of chain.Clash, of the reference's Few and Same.
-/
import Derived.Test.YtfcffglgkblidaaDoorChn2
namespace Go.Proofs.YtfcffglgkblidaaDoor
open Go.RowKit
set_option linter.unusedVariables false
set_option linter.unusedSimpArgs false
namespace ChnP
def tot (L : List Bs) : Nat := (L.map fun t => min t.length 100000).sum
def few (L : List Bs) : Bool := decide (L.length ≤ 40) && decide (tot L ≤ 40000)
theorem tot_next {L : List Bs} {k : Nat} (h : k < L.length) {t : Bs} (ht : L[k] = t) : tot (L.take (k + 1)) = tot (L.take k) + min t.length 100000 := by
  subst ht
  unfold tot
  rw [List.take_succ_eq_append_getElem h, List.map_append, List.sum_append]
  rfl
theorem tot_le : ∀ (L : List Bs), ∀ t ∈ L, min t.length 100000 ≤ tot L
  | [], t, h => by cases h
  | x :: L, t, h => by
    have e : tot (x :: L) = min x.length 100000 + tot L := by simp [tot]
    rcases List.mem_cons.1 h with rfl | h
    · omega
    · have := tot_le L t h; omega
theorem tot_take (L : List Bs) (k : Nat) : tot (L.take k) ≤ 100000 * k := by
  induction k with
  | zero => simp [tot]
  | succ k ih =>
    by_cases h : k < L.length
    · rw [tot_next h rfl]; omega
    · rw [List.take_of_length_le (by omega)]
      rw [List.take_of_length_le (by omega)] at ih
      omega
theorem few_in {L : List Bs} (h : few L = true) : L.length ≤ 40 ∧ ∀ t ∈ L, t.length ≤ 40000 := by
  unfold few at h
  rw [Bool.and_eq_true, decide_eq_true_eq, decide_eq_true_eq] at h
  refine ⟨h.1, fun t ht => ?_⟩
  have := tot_le L t ht
  omega
theorem rev_drop {L : List Bs} {k : Nat} (h : k < L.length) : L.reverse.drop k = L[L.length - 1 - k]'(by omega) :: L.reverse.drop (k + 1) := by
  rw [List.drop_eq_getElem_cons (by simpa using h), List.getElem_reverse]
theorem rev_end {L : List Bs} {k : Nat} (h : L.length ≤ k) : L.reverse.drop k = [] := List.drop_eq_nil_of_le (by simpa using h)
theorem clash_eq {x : Bs} {A B : List Bs} : clash (x :: A) (x :: B) = clash A B := by rw [clash_cons, if_pos rfl]
theorem clash_ne {x y : Bs} {A B : List Bs} (h : x ≠ y) : clash (x :: A) (y :: B) = ((x, y), (DigP.of x == DigP.of y)) := by
  rw [clash_cons, if_neg h]
  congr 1
  rw [Bool.eq_iff_iff, decide_eq_true_eq, beq_iff_eq]
theorem clash_nil1 (B : List Bs) : clash [] B = (([], []), false) := by cases B <;> rfl
theorem clash_nil2 (A : List Bs) : clash A [] = (([], []), false) := by cases A <;> rfl
theorem bstr_ne {x y : Bs} (h : x ≠ y) : ((bstr x).toList == (bstr y).toList) = false := by rw [bstr_toList, bstr_toList]; simpa using h
theorem bstr_nn {x y : Bs} (h : x ≠ y) : ((bstr x).toList != (bstr y).toList) = true := by rw [bstr_toList, bstr_toList]; simpa using h
theorem bstr_same (x : Bs) : ((bstr x).toList == (bstr x).toList) = true := by simp
theorem bstr_sn (x : Bs) : ((bstr x).toList != (bstr x).toList) = false := by simp
def claV (X : (Bs × Bs) × Bool) : Value := .tuple #[.string (bstr X.1.1), .string (bstr X.1.2), .bool X.2]
end ChnP
set_option maxHeartbeats 4000000 in
set_option maxRecDepth 100000 in
theorem rfew (s : Option Addr) (n c : Nat) (L : List (List UInt8)) (hn : n = L.length) (w : World) (hR : Hp.RdV w s (L.map ChnP.txc)) :
    Calls Tryd.prog 13 #[.slice s n c] w fun e w' => e = .returned (.bool (ChnP.few L)) ∧ Below w.heap.size w w' := by
  have sh := (Hp.Sh.start (RdV_rob hR) : Hp.Sh w w [] (fun W => Hp.RdV W s (L.map ChnP.txc)))
  have HN := Lib.hid hn.symm
  by_cases c1 : n ≤ 40
  · have c1I : (n : Int) ≤ 40 := by omega
    have HX := Lib.hid (show ChnP.few L = decide ((ChnP.tot L : Int) ≤ 40000) by
      unfold ChnP.few
      rw [show decide (L.length ≤ 40) = true by simpa using (by omega : L.length ≤ 40), Bool.true_and]
      congr 1
      rw [eq_iff_iff]; omega)
    clear hn hR
    go_enter Tryd.func13, Tryd.ntmps13
    have F := sh.fxb
    go_wp2_with (first
        | ((with_reducible first | refine Hp.wpl_box sh ?_ ?_ | refine Hp.wpa sh ?_ ?_ | refine Hp.atl_store ?_ ?_); exact rfl; (try (refine Hp.wsB sh ?_)); clear sh; (try clear F); go_simp; (first | intro b w1 sh | intro w1 sh); have F := sh.fxb)
        | fail)
    go_loopw [3, 4] (fun t i wr => ∃ (j : Nat), t = .int .i64 (ChnP.tot (L.take j) : Nat) ∧ i = .int .i64 j ∧ j ≤ n ∧ Hp.Sh w wr [] (fun W => Hp.RdV W s (L.map ChnP.txc))) (fun _ i _ => n - (intOf i).toNat)
    case atStart => exact ⟨0, rfl, rfl, by omega, sh⟩
    case round =>
      clear sh F
      obtain ⟨j, rfl, rfl, hj, sh⟩ := hrel
      by_cases hlt : j < n
      · have hlI : (j : Int) < (n : Int) := by omega
        have hjL : j < L.length := by rw [HN.out]; exact hlt
        obtain ⟨pp, hpp, -⟩ := sh.data (by rw [List.length_map]; omega)
        subst hpp
        obtain ⟨t, ht⟩ : ∃ t, L[j] = t := ⟨_, rfl⟩
        have q0 := ChnP.tx_cell sh.data hjL ht
        have HT := Lib.hid (ChnP.tot_next hjL ht)
        have ht9 := ChnP.tot_take L j
        have hsz := bstr_size t
        obtain ⟨tj, htj⟩ : ∃ k, ChnP.tot (L.take j) = k := ⟨_, rfl⟩
        rw [htj] at HT ht9
        rw [htj]
        have HZ := Lib.hid (show (tj : Int) + min (((bstr t).size : Nat) : Int) 100000 = ((ChnP.tot (L.take (j + 1)) : Nat) : Int) by rw [HT.out, hsz]; omega)
        have z1 : IntKind.i64.wrap ((tj : Int) + min (((bstr t).size : Nat) : Int) 100000) = (tj : Int) + min (((bstr t).size : Nat) : Int) 100000 := by rw [hsz, IntWalk.i64_in _ (by omega)]
        clear ht hsz htj HT
        have F := sh.fxb
        go_wp2_with (first
            | ((with_reducible first | refine Hp.wpl_box sh ?_ ?_ | refine Hp.wpa sh ?_ ?_ | refine Hp.atl_store ?_ ?_); exact rfl; (try (refine Hp.wsB sh ?_)); clear sh; (try clear F); go_simp; (first | intro b w1 sh | intro w1 sh); have F := sh.fxb)
            | fail)
        go_roundw
        case rel => exact ⟨j + 1, by rw [HZ.out], by go_num, by omega, sh⟩
        case measure => simp [intOf]; omega
      · obtain rfl : j = n := by omega
        have e : L.take j = L := List.take_of_length_le (by rw [HN.out]; exact Nat.le_refl _)
        rw [e]
        clear e
        have F := sh.fxb
        go_wp2_with (first
            | ((with_reducible first | refine Hp.wpl_box sh ?_ ?_ | refine Hp.wpa sh ?_ ?_ | refine Hp.atl_store ?_ ?_); exact rfl; (try (refine Hp.wsB sh ?_)); clear sh; (try clear F); go_simp; (first | intro b w1 sh | intro w1 sh); have F := sh.fxb)
            | fail)
        go_ret
        exact ⟨(by rw [HX.out]; rfl), sh.below⟩
  · have c1I : ¬ (n : Int) ≤ 40 := by omega
    have HX := Lib.hid (show ChnP.few L = false by
      unfold ChnP.few
      rw [show decide (L.length ≤ 40) = false by simp; omega, Bool.false_and])
    have c0 : (0 : Int) < (n : Int) := by omega
    clear hn hR
    go_enter Tryd.func13, Tryd.ntmps13
    have F := sh.fxb
    go_wp2_with (first
        | ((with_reducible first | refine Hp.wpl_box sh ?_ ?_ | refine Hp.wpa sh ?_ ?_ | refine Hp.atl_store ?_ ?_); exact rfl; (try (refine Hp.wsB sh ?_)); clear sh; (try clear F); go_simp; (first | intro b w1 sh | intro w1 sh); have F := sh.fxb)
        | fail)
    go_loopw [3, 4] (fun t i wr => t = .int .i64 0 ∧ i = .int .i64 0 ∧ Hp.Sh w wr [] (fun W => Hp.RdV W s (L.map ChnP.txc))) (fun _ i _ => 0)
    case atStart => exact ⟨rfl, rfl, sh⟩
    case round =>
      clear sh F
      obtain ⟨rfl, rfl, sh⟩ := hrel
      have F := sh.fxb
      go_wp2_with (first
          | ((with_reducible first | refine Hp.wpl_box sh ?_ ?_ | refine Hp.wpa sh ?_ ?_ | refine Hp.atl_store ?_ ?_); exact rfl; (try (refine Hp.wsB sh ?_)); clear sh; (try clear F); go_simp; (first | intro b w1 sh | intro w1 sh); have F := sh.fxb)
          | fail)
      go_ret
      exact ⟨(by rw [HX.out]; rfl), sh.below⟩

set_option maxHeartbeats 4000000 in
set_option maxRecDepth 100000 in
theorem rsame (s1 s2 : Option Addr) (n m c1 c2 : Nat) (A B : List (List UInt8)) (hn : n = A.length) (hm : m = B.length) (hnn : n ≤ 100) (hmm : m ≤ 100) (w : World) (hR : Hp.RdV w s1 (A.map ChnP.txc)) (hR2 : Hp.RdV w s2 (B.map ChnP.txc)) :
    Calls Tryd.prog 22 #[.slice s1 n c1, .slice s2 m c2] w fun e w' => e = .returned (.bool (decide (A = B))) ∧ Below w.heap.size w w' := by
  have sh := (Hp.Sh.start ((RdV_rob hR).and (RdV_rob hR2)) : Hp.Sh w w [] (fun W => Hp.RdV W s1 (A.map ChnP.txc) ∧ Hp.RdV W s2 (B.map ChnP.txc)))
  have HN := Lib.hid hn.symm
  have HM := Lib.hid hm.symm
  clear hn hm hR hR2
  by_cases hlen : n = m
  · subst hlen
    go_enter Tryd.func22, Tryd.ntmps22
    have F := sh.fxb
    go_wp2_with (first
        | ((with_reducible first | refine Hp.wpl_box sh ?_ ?_ | refine Hp.wpa sh ?_ ?_ | refine Hp.atl_store ?_ ?_); exact rfl; (try (refine Hp.wsB sh ?_)); clear sh; (try clear F); go_simp; (first | intro b w1 sh | intro w1 sh); have F := sh.fxb)
        | fail)
    go_loopw [5] (fun i wr => ∃ (j : Nat), i = .int .i64 j ∧ j ≤ n ∧ Hid (A.take j = B.take j) ∧ Hp.Sh w wr [] (fun W => Hp.RdV W s1 (A.map ChnP.txc) ∧ Hp.RdV W s2 (B.map ChnP.txc))) (fun i _ => n - (intOf i).toNat)
    case atStart => exact ⟨0, rfl, by omega, Lib.hid rfl, sh⟩
    case round =>
      clear sh F
      obtain ⟨j, rfl, hj, HK, sh⟩ := hrel
      by_cases hlt : j < n
      · have hlI : (j : Int) < (n : Int) := by omega
        have hjA : j < A.length := by rw [HN.out]; exact hlt
        have hjB : j < B.length := by rw [HM.out]; exact hlt
        obtain ⟨p1, hp1, -⟩ := sh.data.1 (by rw [List.length_map]; omega)
        obtain ⟨p2, hp2, -⟩ := sh.data.2 (by rw [List.length_map]; omega)
        subst hp1 hp2
        obtain ⟨x, hx⟩ : ∃ t, A[j] = t := ⟨_, rfl⟩
        obtain ⟨y, hy⟩ : ∃ t, B[j] = t := ⟨_, rfl⟩
        have HC1 := Lib.hid (fun W (q : Hp.RdV W (some p1) (A.map ChnP.txc)) => ChnP.tx_cell q hjA hx)
        have HC2 := Lib.hid (fun W (q : Hp.RdV W (some p2) (B.map ChnP.txc)) => ChnP.tx_cell q hjB hy)
        by_cases hxy : x = y
        · subst hxy
          have d1 := ChnP.bstr_sn x
          have d2 := ChnP.bstr_same x
          have HK9 := Lib.hid (show A.take (j + 1) = B.take (j + 1) by rw [List.take_succ_eq_append_getElem hjA, List.take_succ_eq_append_getElem hjB, HK.out, hx, hy])
          clear hx hy hjA hjB HK
          have F := sh.fxb
          go_wp2_with (first
              | ((with_reducible first | refine Hp.wpl_box sh ?_ ?_ | refine Hp.wpa sh ?_ ?_ | refine Hp.atl_store ?_ ?_); exact rfl; (try (refine Hp.wsB sh ?_)); clear sh; (try clear F); go_simp; (first | intro b w1 sh | intro w1 sh); have F := sh.fxb)
              | fail)
          refine Hp.region_soft (by kernel_rfl) sh (fun _ q => q) ?_; clear sh; (try clear F)
          (try simp only [Hp.p2, Hp.p3])
          (refine Hp.tks (i := 0) (oi := ⟨some 17, Op.move (Operand.tmp 0), _, _, _, none⟩) (fun _ q => q) ?_)
          (refine Hp.tks (i := 1) (oi := ⟨some 18, Op.move (Operand.tmp 5), _, _, _, none⟩) (fun _ q => q) ?_)
          (refine Hp.tks (i := 2) (oi := ⟨some 19, Op.indexAddr 34 (Operand.tmp 17) (Operand.tmp 18), _, _, _, none⟩) (fun _ q => q) ?_)
          (refine Hp.tk (i := 3) (oi := ⟨some 20, Op.load 9 (Operand.tmp 19), _, _, _, none⟩) _ (fun _ q => q) (fun W hW => by (have F := Hp.Sh.facts hW); (have hd := Hp.Sh.data hW); (try simp only [Hp.Facts, Hp.CellsAt, BatP.cellsAt_bt, Nat.reduceAdd, Hp.c1, Hp.c2] at F); have hcs := HC1.out _ hd.1; have hcd := HC2.out _ hd.2; go_simp; (try with_reducible rfl)) ?_)
          (refine Hp.tks (i := 4) (oi := ⟨some 21, Op.move (Operand.tmp 1), _, _, _, none⟩) (fun _ q => q) ?_)
          (refine Hp.tks (i := 5) (oi := ⟨some 22, Op.move (Operand.tmp 5), _, _, _, none⟩) (fun _ q => q) ?_)
          (refine Hp.tks (i := 6) (oi := ⟨some 23, Op.indexAddr 34 (Operand.tmp 21) (Operand.tmp 22), _, _, _, none⟩) (fun _ q => q) ?_)
          (refine Hp.tk (i := 7) (oi := ⟨some 24, Op.load 9 (Operand.tmp 23), _, _, _, none⟩) _ (fun _ q => q) (fun W hW => by (have F := Hp.Sh.facts hW); (have hd := Hp.Sh.data hW); (try simp only [Hp.Facts, Hp.CellsAt, BatP.cellsAt_bt, Nat.reduceAdd, Hp.c1, Hp.c2] at F); have hcs := HC1.out _ hd.1; have hcd := HC2.out _ hd.2; go_simp; (try with_reducible rfl)) ?_)
          (refine Hp.tks (i := 8) (oi := ⟨some 25, Op.binOp BinOp.neq 9 (Operand.tmp 20) (Operand.tmp 24) 9, _, _, _, none⟩) (fun _ q => q) ?_)
          refine Hp.soft_done (by kernel_rfl) (fun w1 sh => ?_) _; (try clear F); (try have F := Hp.Sh.facts sh); (try simp only [Hp.Facts, Hp.CellsAt, BatP.cellsAt_bt, Nat.reduceAdd, Hp.c1, Hp.c2] at F)
          go_wp2_with (first
              | ((with_reducible first | refine Hp.wpl_box sh ?_ ?_ | refine Hp.wpa sh ?_ ?_ | refine Hp.atl_store ?_ ?_); exact rfl; (try (refine Hp.wsB sh ?_)); clear sh; (try clear F); go_simp; (first | intro b w1 sh | intro w1 sh); have F := sh.fxb)
              | fail)
          go_roundw
          case rel => exact ⟨j + 1, by go_num, by omega, HK9, sh⟩
          case measure => simp [intOf]; omega
        · have d1 := ChnP.bstr_nn hxy
          have d2 := ChnP.bstr_ne hxy
          have HX := Lib.hid (show decide (A = B) = false by
            rw [decide_eq_false_iff_not]
            intro h
            subst h
            exact hxy (hx.symm.trans hy))
          clear hx hy hjA hjB HK hxy
          have F := sh.fxb
          go_wp2_with (first
              | ((with_reducible first | refine Hp.wpl_box sh ?_ ?_ | refine Hp.wpa sh ?_ ?_ | refine Hp.atl_store ?_ ?_); exact rfl; (try (refine Hp.wsB sh ?_)); clear sh; (try clear F); go_simp; (first | intro b w1 sh | intro w1 sh); have F := sh.fxb)
              | fail)
          refine Hp.region_soft (by kernel_rfl) sh (fun _ q => q) ?_; clear sh; (try clear F)
          (try simp only [Hp.p2, Hp.p3])
          (refine Hp.tks (i := 0) (oi := ⟨some 17, Op.move (Operand.tmp 0), _, _, _, none⟩) (fun _ q => q) ?_)
          (refine Hp.tks (i := 1) (oi := ⟨some 18, Op.move (Operand.tmp 5), _, _, _, none⟩) (fun _ q => q) ?_)
          (refine Hp.tks (i := 2) (oi := ⟨some 19, Op.indexAddr 34 (Operand.tmp 17) (Operand.tmp 18), _, _, _, none⟩) (fun _ q => q) ?_)
          (refine Hp.tk (i := 3) (oi := ⟨some 20, Op.load 9 (Operand.tmp 19), _, _, _, none⟩) _ (fun _ q => q) (fun W hW => by (have F := Hp.Sh.facts hW); (have hd := Hp.Sh.data hW); (try simp only [Hp.Facts, Hp.CellsAt, BatP.cellsAt_bt, Nat.reduceAdd, Hp.c1, Hp.c2] at F); have hcs := HC1.out _ hd.1; have hcd := HC2.out _ hd.2; go_simp; (try with_reducible rfl)) ?_)
          (refine Hp.tks (i := 4) (oi := ⟨some 21, Op.move (Operand.tmp 1), _, _, _, none⟩) (fun _ q => q) ?_)
          (refine Hp.tks (i := 5) (oi := ⟨some 22, Op.move (Operand.tmp 5), _, _, _, none⟩) (fun _ q => q) ?_)
          (refine Hp.tks (i := 6) (oi := ⟨some 23, Op.indexAddr 34 (Operand.tmp 21) (Operand.tmp 22), _, _, _, none⟩) (fun _ q => q) ?_)
          (refine Hp.tk (i := 7) (oi := ⟨some 24, Op.load 9 (Operand.tmp 23), _, _, _, none⟩) _ (fun _ q => q) (fun W hW => by (have F := Hp.Sh.facts hW); (have hd := Hp.Sh.data hW); (try simp only [Hp.Facts, Hp.CellsAt, BatP.cellsAt_bt, Nat.reduceAdd, Hp.c1, Hp.c2] at F); have hcs := HC1.out _ hd.1; have hcd := HC2.out _ hd.2; go_simp; (try with_reducible rfl)) ?_)
          (refine Hp.tks (i := 8) (oi := ⟨some 25, Op.binOp BinOp.neq 9 (Operand.tmp 20) (Operand.tmp 24) 9, _, _, _, none⟩) (fun _ q => q) ?_)
          refine Hp.soft_done (by kernel_rfl) (fun w1 sh => ?_) _; (try clear F); (try have F := Hp.Sh.facts sh); (try simp only [Hp.Facts, Hp.CellsAt, BatP.cellsAt_bt, Nat.reduceAdd, Hp.c1, Hp.c2] at F)
          go_wp2_with (first
              | ((with_reducible first | refine Hp.wpl_box sh ?_ ?_ | refine Hp.wpa sh ?_ ?_ | refine Hp.atl_store ?_ ?_); exact rfl; (try (refine Hp.wsB sh ?_)); clear sh; (try clear F); go_simp; (first | intro b w1 sh | intro w1 sh); have F := sh.fxb)
              | fail)
          go_ret
          exact ⟨(by rw [HX.out]; rfl), sh.below⟩
      · obtain rfl : j = n := by omega
        have HX := Lib.hid (show decide (A = B) = true by
          rw [decide_eq_true_eq]
          have := HK.out
          rwa [List.take_of_length_le (by rw [HN.out]; exact Nat.le_refl _), List.take_of_length_le (by rw [HM.out]; exact Nat.le_refl _)] at this)
        clear HK
        have F := sh.fxb
        go_wp2_with (first
            | ((with_reducible first | refine Hp.wpl_box sh ?_ ?_ | refine Hp.wpa sh ?_ ?_ | refine Hp.atl_store ?_ ?_); exact rfl; (try (refine Hp.wsB sh ?_)); clear sh; (try clear F); go_simp; (first | intro b w1 sh | intro w1 sh); have F := sh.fxb)
            | fail)
        go_ret
        exact ⟨(by rw [HX.out]; rfl), sh.below⟩
  · have HX := Lib.hid (show decide (A = B) = false by
      rw [decide_eq_false_iff_not]
      intro h
      subst h
      exact hlen (HN.out.symm.trans HM.out))
    have l1 : ((n : Int) != (m : Int)) = true := by rw [bne_iff_ne]; omega
    have l2 : (n != m) = true := by rw [bne_iff_ne]; exact hlen
    go_enter Tryd.func22, Tryd.ntmps22
    have F := sh.fxb
    go_wp2_with (first
        | ((with_reducible first | refine Hp.wpl_box sh ?_ ?_ | refine Hp.wpa sh ?_ ?_ | refine Hp.atl_store ?_ ?_); exact rfl; (try (refine Hp.wsB sh ?_)); clear sh; (try clear F); go_simp; (first | intro b w1 sh | intro w1 sh); have F := sh.fxb)
        | fail)
    go_ret
    exact ⟨(by rw [HX.out]; rfl), sh.below⟩

set_option maxHeartbeats 4000000 in
set_option maxRecDepth 100000 in
theorem cclash (s1 s2 : Option Addr) (n m c1 c2 : Nat) (A B : List (List UInt8)) (hn : n = A.length) (hm : m = B.length) (hnn : n ≤ 100) (hmm : m ≤ 100) (hA : ∀ t ∈ A, t.length ≤ 40000) (hB : ∀ t ∈ B, t.length ≤ 40000) (w : World) (hR : Hp.RdV w s1 (A.map ChnP.txc)) (hR2 : Hp.RdV w s2 (B.map ChnP.txc)) (hG : Hp.RdV w (some ⟨0, 0, none⟩) (DigP.wds DigP.consts)) :
    Calls Tryd.prog 17 #[.slice s1 n c1, .slice s2 m c2] w fun e w' => e = .returned (ChnP.claV (ChnP.clash A.reverse B.reverse)) ∧ Below w.heap.size w w' := by
  have sh := (Hp.Sh.start ((RdV_rob hR).and ((RdV_rob hR2).and (RdV_rob hG))) : Hp.Sh w w [] (fun W => Hp.RdV W s1 (A.map ChnP.txc) ∧ Hp.RdV W s2 (B.map ChnP.txc) ∧ Hp.RdV W (some ⟨0, 0, none⟩) (DigP.wds DigP.consts)))
  have HN := Lib.hid hn.symm
  have HM := Lib.hid hm.symm
  have HA := Lib.hid hA
  have HB := Lib.hid hB
  have HX0 := Lib.hid (show ChnP.clash A.reverse B.reverse = ChnP.clash (A.reverse.drop 0) (B.reverse.drop 0) from rfl)
  clear hn hm hR hR2 hG hA hB
  · skip
    go_enter Tryd.func17, Tryd.ntmps17
    have F := sh.fxb
    go_wp2_with (first
        | ((with_reducible first | refine Hp.wpl_box sh ?_ ?_ | refine Hp.wpa sh ?_ ?_ | refine Hp.atl_store ?_ ?_); exact rfl; (try (refine Hp.wsB sh ?_)); clear sh; (try clear F); go_simp; (first | intro b w1 sh | intro w1 sh); have F := sh.fxb)
        | fail)
    go_step3
    go_wp2_with (first
        | ((with_reducible first | refine Hp.wpl_box sh ?_ ?_ | refine Hp.wpa sh ?_ ?_ | refine Hp.atl_store ?_ ?_); exact rfl; (try (refine Hp.wsB sh ?_)); clear sh; (try clear F); go_simp; (first | intro b w1 sh | intro w1 sh); have F := sh.fxb)
        | fail)
    go_step3
    go_wp2_with (first
        | ((with_reducible first | refine Hp.wpl_box sh ?_ ?_ | refine Hp.wpa sh ?_ ?_ | refine Hp.atl_store ?_ ?_); exact rfl; (try (refine Hp.wsB sh ?_)); clear sh; (try clear F); go_simp; (first | intro b w1 sh | intro w1 sh); have F := sh.fxb)
        | fail)
    go_loopw [15] (fun i wr => ∃ (j : Nat), i = .int .i64 (j : Int) ∧ j ≤ n ∧ j ≤ m ∧ Hid (ChnP.clash A.reverse B.reverse = ChnP.clash (A.reverse.drop j) (B.reverse.drop j)) ∧ Hp.Sh w wr [] (fun W => Hp.RdV W s1 (A.map ChnP.txc) ∧ Hp.RdV W s2 (B.map ChnP.txc) ∧ Hp.RdV W (some ⟨0, 0, none⟩) (DigP.wds DigP.consts))) (fun i _ => n - (intOf i).toNat)
    case atStart => exact ⟨0, by first | rfl | go_num, by omega, by omega, HX0, sh⟩
    case round =>
      clear sh F HX0
      obtain ⟨j, rfl, hjn, hjm, HX, sh⟩ := hrel
      by_cases hlt : j < n ∧ j < m
      · obtain ⟨hln, hlm⟩ := hlt
        have hjA : j < A.length := by rw [HN.out]; exact hln
        have hjB : j < B.length := by rw [HM.out]; exact hlm
        obtain ⟨p1, hp1, -⟩ := sh.data.1 (by rw [List.length_map]; omega)
        obtain ⟨p2, hp2, -⟩ := sh.data.2.1 (by rw [List.length_map]; omega)
        subst hp1 hp2
        obtain ⟨x, hx⟩ : ∃ t, A[A.length - 1 - j]'(by omega) = t := ⟨_, rfl⟩
        obtain ⟨y, hy⟩ : ∃ t, B[B.length - 1 - j]'(by omega) = t := ⟨_, rfl⟩
        have HC1 := Lib.hid (fun W (q : Hp.RdV W (some p1) (A.map ChnP.txc)) => ChnP.tx_cell q (by omega) hx)
        have HC2 := Lib.hid (fun W (q : Hp.RdV W (some p2) (B.map ChnP.txc)) => ChnP.tx_cell q (by omega) hy)
        have hlx : x.length ≤ 40000 := by rw [← hx]; exact HA.out _ (List.getElem_mem _)
        have hly : y.length ≤ 40000 := by rw [← hy]; exact HB.out _ (List.getElem_mem _)
        have hxr := ChnP.rev_drop hjA
        have hyr := ChnP.rev_drop hjB
        rw [hx] at hxr
        rw [hy] at hyr
        rw [hxr, hyr] at HX
        rw [HN.out] at HC1
        rw [HM.out] at HC2
        have z0 : IntKind.i64.wrap ((n : Int) - 1) = (n : Int) - 1 := by rw [IntWalk.i64_in _ (by omega)]
        have z0' : IntKind.i64.wrap ((m : Int) - 1) = (m : Int) - 1 := by rw [IntWalk.i64_in _ (by omega)]
        have z1 : IntKind.i64.wrap ((n : Int) - 1 - (j : Int)) = ((n - 1 - j : Nat) : Int) := by rw [IntWalk.i64_in _ (by omega)]; omega
        have z2 : IntKind.i64.wrap ((m : Int) - 1 - (j : Int)) = ((m - 1 - j : Nat) : Int) := by rw [IntWalk.i64_in _ (by omega)]; omega
        have t1 : (j : Int) < min (n : Int) (m : Int) := by omega
        have t2 : n - 1 - j < n := by omega
        have t3 : m - 1 - j < m := by omega
        have t5 : IntKind.i64.wrap ((j : Int) + 1) = (j : Int) + 1 := by rw [IntWalk.i64_in _ (by omega)]
        by_cases hxy : x = y
        · subst hxy
          have d1 := ChnP.bstr_same x
          have d2 := ChnP.bstr_sn x
          rw [ChnP.clash_eq] at HX
          clear hx hy hjA hjB hxr hyr hlx hly
          skip
          have F := sh.fxb
          go_wp2_with (first
              | ((with_reducible first | refine Hp.wpl_box sh ?_ ?_ | refine Hp.wpa sh ?_ ?_ | refine Hp.atl_store ?_ ?_); exact rfl; (try (refine Hp.wsB sh ?_)); clear sh; (try clear F); go_simp; (first | intro b w1 sh | intro w1 sh); have F := sh.fxb)
              | fail)
          refine Hp.region_soft (by kernel_rfl) sh (fun _ q => q) ?_; clear sh; (try clear F)
          (try simp only [Hp.p2, Hp.p3])
          (refine Hp.tks (i := 0) (oi := ⟨some 18, Op.move (Operand.tmp 0), _, _, _, none⟩) (fun _ q => q) ?_)
          (refine Hp.tks (i := 1) (oi := ⟨some 19, Op.move (Operand.tmp 0), _, _, _, none⟩) (fun _ q => q) ?_)
          (refine Hp.tks (i := 2) (oi := ⟨some 20, Op.call { callee := Callee.builtin Builtin.len, args := #[Operand.tmp 19], argTypes := #[34] }, _, _, _, none⟩) (fun _ q => q) ?_)
          (refine Hp.tks (i := 3) (oi := ⟨some 21, Op.binOp BinOp.sub 3 (Operand.tmp 20) (Operand.const (Value.int IntKind.i64 1)) 3, _, _, _, none⟩) (fun _ q => q) ?_)
          (refine Hp.tks (i := 4) (oi := ⟨some 22, Op.move (Operand.tmp 7), _, _, _, none⟩) (fun _ q => q) ?_)
          (refine Hp.tks (i := 5) (oi := ⟨some 23, Op.binOp BinOp.sub 3 (Operand.tmp 21) (Operand.tmp 22) 3, _, _, _, none⟩) (fun _ q => q) ?_)
          (refine Hp.tks (i := 6) (oi := ⟨some 24, Op.indexAddr 34 (Operand.tmp 18) (Operand.tmp 23), _, _, _, none⟩) (fun _ q => q) ?_)
          (refine Hp.tk (i := 7) (oi := ⟨some 25, Op.load 9 (Operand.tmp 24), _, _, _, none⟩) _ (fun _ q => q) (fun W hW => by (have F := Hp.Sh.facts hW); (have hd := Hp.Sh.data hW); (try simp only [Hp.Facts, Hp.CellsAt, BatP.cellsAt_bt, Nat.reduceAdd, Hp.c1, Hp.c2] at F); have hcs := HC1.out _ hd.1; have hcd := HC2.out _ hd.2.1; go_simp; (try with_reducible rfl)) ?_)
          (refine Hp.tks (i := 8) (oi := ⟨some 26, Op.move (Operand.tmp 1), _, _, _, none⟩) (fun _ q => q) ?_)
          (refine Hp.tks (i := 9) (oi := ⟨some 27, Op.move (Operand.tmp 1), _, _, _, none⟩) (fun _ q => q) ?_)
          (refine Hp.tks (i := 10) (oi := ⟨some 28, Op.call { callee := Callee.builtin Builtin.len, args := #[Operand.tmp 27], argTypes := #[34] }, _, _, _, none⟩) (fun _ q => q) ?_)
          (refine Hp.tks (i := 11) (oi := ⟨some 29, Op.binOp BinOp.sub 3 (Operand.tmp 28) (Operand.const (Value.int IntKind.i64 1)) 3, _, _, _, none⟩) (fun _ q => q) ?_)
          (refine Hp.tks (i := 12) (oi := ⟨some 30, Op.move (Operand.tmp 7), _, _, _, none⟩) (fun _ q => q) ?_)
          (refine Hp.tks (i := 13) (oi := ⟨some 31, Op.binOp BinOp.sub 3 (Operand.tmp 29) (Operand.tmp 30) 3, _, _, _, none⟩) (fun _ q => q) ?_)
          (refine Hp.tks (i := 14) (oi := ⟨some 32, Op.indexAddr 34 (Operand.tmp 26) (Operand.tmp 31), _, _, _, none⟩) (fun _ q => q) ?_)
          (refine Hp.tk (i := 15) (oi := ⟨some 33, Op.load 9 (Operand.tmp 32), _, _, _, none⟩) _ (fun _ q => q) (fun W hW => by (have F := Hp.Sh.facts hW); (have hd := Hp.Sh.data hW); (try simp only [Hp.Facts, Hp.CellsAt, BatP.cellsAt_bt, Nat.reduceAdd, Hp.c1, Hp.c2] at F); have hcs := HC1.out _ hd.1; have hcd := HC2.out _ hd.2.1; go_simp; (try with_reducible rfl)) ?_)
          (refine Hp.tks (i := 16) (oi := ⟨some 8, Op.assign (Operand.tmp 25), _, _, _, none⟩) (fun _ q => q) ?_)
          (refine Hp.tks (i := 17) (oi := ⟨some 9, Op.assign (Operand.tmp 33), _, _, _, none⟩) (fun _ q => q) ?_)
          refine Hp.soft_done (by kernel_rfl) (fun w1 sh => ?_) _; (try clear F); (try have F := Hp.Sh.facts sh); (try simp only [Hp.Facts, Hp.CellsAt, BatP.cellsAt_bt, Nat.reduceAdd, Hp.c1, Hp.c2] at F)
          go_wp2_with (first
              | ((with_reducible first | refine Hp.wpl_box sh ?_ ?_ | refine Hp.wpa sh ?_ ?_ | refine Hp.atl_store ?_ ?_); exact rfl; (try (refine Hp.wsB sh ?_)); clear sh; (try clear F); go_simp; (first | intro b w1 sh | intro w1 sh); have F := sh.fxb)
              | fail)
          go_roundw
          case rel => exact ⟨j + 1, by first | rfl | go_num, by omega, by omega, HX, sh⟩
          case measure => simp [intOf]; omega
        · have d1 := ChnP.bstr_ne hxy
          have d2 := ChnP.bstr_nn hxy
          rw [ChnP.clash_ne hxy] at HX
          have KX := Lib.hid (fun W g => cof x (by omega) W g)
          have KY := Lib.hid (fun W g => cof y (by omega) W g)
          have HD := bdeq (DigP.of x) (DigP.of y) (ChnP.of_len x) (ChnP.of_len y)
          generalize DigP.of x = dx at HX KX HD
          generalize DigP.of y = dy at HX KY HD
          generalize (dx == dy) = sm at HX HD
          clear hx hy hjA hjB hxr hyr hlx hly hxy
          skip
          have F := sh.fxb
          go_wp2_with (first
              | ((with_reducible first | refine Hp.wpl_box sh ?_ ?_ | refine Hp.wpa sh ?_ ?_ | refine Hp.atl_store ?_ ?_); exact rfl; (try (refine Hp.wsB sh ?_)); clear sh; (try clear F); go_simp; (first | intro b w1 sh | intro w1 sh); have F := sh.fxb)
              | fail)
          refine Hp.region_soft (by kernel_rfl) sh (fun _ q => q) ?_; clear sh; (try clear F)
          (try simp only [Hp.p2, Hp.p3])
          (refine Hp.tks (i := 0) (oi := ⟨some 18, Op.move (Operand.tmp 0), _, _, _, none⟩) (fun _ q => q) ?_)
          (refine Hp.tks (i := 1) (oi := ⟨some 19, Op.move (Operand.tmp 0), _, _, _, none⟩) (fun _ q => q) ?_)
          (refine Hp.tks (i := 2) (oi := ⟨some 20, Op.call { callee := Callee.builtin Builtin.len, args := #[Operand.tmp 19], argTypes := #[34] }, _, _, _, none⟩) (fun _ q => q) ?_)
          (refine Hp.tks (i := 3) (oi := ⟨some 21, Op.binOp BinOp.sub 3 (Operand.tmp 20) (Operand.const (Value.int IntKind.i64 1)) 3, _, _, _, none⟩) (fun _ q => q) ?_)
          (refine Hp.tks (i := 4) (oi := ⟨some 22, Op.move (Operand.tmp 7), _, _, _, none⟩) (fun _ q => q) ?_)
          (refine Hp.tks (i := 5) (oi := ⟨some 23, Op.binOp BinOp.sub 3 (Operand.tmp 21) (Operand.tmp 22) 3, _, _, _, none⟩) (fun _ q => q) ?_)
          (refine Hp.tks (i := 6) (oi := ⟨some 24, Op.indexAddr 34 (Operand.tmp 18) (Operand.tmp 23), _, _, _, none⟩) (fun _ q => q) ?_)
          (refine Hp.tk (i := 7) (oi := ⟨some 25, Op.load 9 (Operand.tmp 24), _, _, _, none⟩) _ (fun _ q => q) (fun W hW => by (have F := Hp.Sh.facts hW); (have hd := Hp.Sh.data hW); (try simp only [Hp.Facts, Hp.CellsAt, BatP.cellsAt_bt, Nat.reduceAdd, Hp.c1, Hp.c2] at F); have hcs := HC1.out _ hd.1; have hcd := HC2.out _ hd.2.1; go_simp; (try with_reducible rfl)) ?_)
          (refine Hp.tks (i := 8) (oi := ⟨some 26, Op.move (Operand.tmp 1), _, _, _, none⟩) (fun _ q => q) ?_)
          (refine Hp.tks (i := 9) (oi := ⟨some 27, Op.move (Operand.tmp 1), _, _, _, none⟩) (fun _ q => q) ?_)
          (refine Hp.tks (i := 10) (oi := ⟨some 28, Op.call { callee := Callee.builtin Builtin.len, args := #[Operand.tmp 27], argTypes := #[34] }, _, _, _, none⟩) (fun _ q => q) ?_)
          (refine Hp.tks (i := 11) (oi := ⟨some 29, Op.binOp BinOp.sub 3 (Operand.tmp 28) (Operand.const (Value.int IntKind.i64 1)) 3, _, _, _, none⟩) (fun _ q => q) ?_)
          (refine Hp.tks (i := 12) (oi := ⟨some 30, Op.move (Operand.tmp 7), _, _, _, none⟩) (fun _ q => q) ?_)
          (refine Hp.tks (i := 13) (oi := ⟨some 31, Op.binOp BinOp.sub 3 (Operand.tmp 29) (Operand.tmp 30) 3, _, _, _, none⟩) (fun _ q => q) ?_)
          (refine Hp.tks (i := 14) (oi := ⟨some 32, Op.indexAddr 34 (Operand.tmp 26) (Operand.tmp 31), _, _, _, none⟩) (fun _ q => q) ?_)
          (refine Hp.tk (i := 15) (oi := ⟨some 33, Op.load 9 (Operand.tmp 32), _, _, _, none⟩) _ (fun _ q => q) (fun W hW => by (have F := Hp.Sh.facts hW); (have hd := Hp.Sh.data hW); (try simp only [Hp.Facts, Hp.CellsAt, BatP.cellsAt_bt, Nat.reduceAdd, Hp.c1, Hp.c2] at F); have hcs := HC1.out _ hd.1; have hcd := HC2.out _ hd.2.1; go_simp; (try with_reducible rfl)) ?_)
          (refine Hp.tks (i := 16) (oi := ⟨some 8, Op.assign (Operand.tmp 25), _, _, _, none⟩) (fun _ q => q) ?_)
          (refine Hp.tks (i := 17) (oi := ⟨some 9, Op.assign (Operand.tmp 33), _, _, _, none⟩) (fun _ q => q) ?_)
          refine Hp.soft_done (by kernel_rfl) (fun w1 sh => ?_) _; (try clear F); (try have F := Hp.Sh.facts sh); (try simp only [Hp.Facts, Hp.CellsAt, BatP.cellsAt_bt, Nat.reduceAdd, Hp.c1, Hp.c2] at F)
          go_wp2_with (first
              | ((with_reducible first | refine Hp.wpl_box sh ?_ ?_ | refine Hp.wpa sh ?_ ?_ | refine Hp.atl_store ?_ ?_); exact rfl; (try (refine Hp.wsB sh ?_)); clear sh; (try clear F); go_simp; (first | intro b w1 sh | intro w1 sh); have F := sh.fxb)
              | fail)
          refine Hp.region_soft (by kernel_rfl) sh (fun _ q => q) ?_; clear sh; (try clear F)
          (try simp only [Hp.p2, Hp.p3])
          (refine Hp.tks (i := 0) (oi := ⟨some 37, Op.move (Operand.tmp 8), _, _, _, none⟩) (fun _ q => q) ?_)
          (refine Hp.tks (i := 1) (oi := ⟨some 38, Op.move (Operand.tmp 9), _, _, _, none⟩) (fun _ q => q) ?_)
          (refine Hp.tks (i := 2) (oi := ⟨some 39, Op.move (Operand.tmp 8), _, _, _, none⟩) (fun _ q => q) ?_)
          (refine Hp.cl (i := 3) (oi := ⟨some 40, Op.call { callee := Callee.value (Operand.func 21), args := #[Operand.tmp 39], argTypes := #[9] }, _, _, _, none⟩) _ _ _ (fun _ q => q) (fun W hW => by go_simp) (fun W hW => (KX.out W hW.data.2.2)) ?_)
          (refine Hp.tks (i := 4) (oi := ⟨some 41, Op.move (Operand.tmp 9), _, _, _, none⟩) (fun _ q => q) ?_)
          (refine Hp.cl (i := 5) (oi := ⟨some 42, Op.call { callee := Callee.value (Operand.func 21), args := #[Operand.tmp 41], argTypes := #[9] }, _, _, _, none⟩) _ _ _ (fun _ q => q) (fun W hW => by go_simp) (fun W hW => (KY.out W hW.data.2.2)) ?_)
          (refine Hp.tks (i := 6) (oi := ⟨some 43, Op.binOp BinOp.eql 23 (Operand.tmp 40) (Operand.tmp 42) 23, _, _, _, none⟩) (fun _ q => q) ?_)
          (refine Hp.tks (i := 7) (oi := ⟨some 4, Op.assign (Operand.tmp 37), _, _, _, none⟩) (fun _ q => q) ?_)
          (refine Hp.tks (i := 8) (oi := ⟨some 5, Op.assign (Operand.tmp 38), _, _, _, none⟩) (fun _ q => q) ?_)
          (refine Hp.tks (i := 9) (oi := ⟨some 6, Op.assign (Operand.tmp 43), _, _, _, none⟩) (fun _ q => q) ?_)
          refine Hp.soft_done (by kernel_rfl) (fun w1 sh => ?_) _; (try clear F); (try have F := Hp.Sh.facts sh); (try simp only [Hp.Facts, Hp.CellsAt, BatP.cellsAt_bt, Nat.reduceAdd, Hp.c1, Hp.c2] at F)
          go_wp2_with (first
              | ((with_reducible first | refine Hp.wpl_box sh ?_ ?_ | refine Hp.wpa sh ?_ ?_ | refine Hp.atl_store ?_ ?_); exact rfl; (try (refine Hp.wsB sh ?_)); clear sh; (try clear F); go_simp; (first | intro b w1 sh | intro w1 sh); have F := sh.fxb)
              | fail)
          (try rw [Exit.noGoto_ret]); go_ret3
          exact ⟨by rw [HX.out]; rfl, sh.below⟩
      · have HX9 := Lib.hid (show ChnP.clash A.reverse B.reverse = (([], []), false) by
          rw [HX.out]
          rcases (show n ≤ j ∨ m ≤ j by omega) with h | h
          · rw [ChnP.rev_end (L := A) (by rw [HN.out]; exact h), ChnP.clash_nil1]
          · rw [ChnP.rev_end (L := B) (by rw [HM.out]; exact h), ChnP.clash_nil2])
        have t1 : ¬ (j : Int) < min (n : Int) (m : Int) := by omega
        clear HX
        have F := sh.fxb
        go_wp2_with (first
            | ((with_reducible first | refine Hp.wpl_box sh ?_ ?_ | refine Hp.wpa sh ?_ ?_ | refine Hp.atl_store ?_ ?_); exact rfl; (try (refine Hp.wsB sh ?_)); clear sh; (try clear F); go_simp; (first | intro b w1 sh | intro w1 sh); have F := sh.fxb)
            | fail)
        (try rw [Exit.noGoto_ret]); go_ret3
        exact ⟨by rw [HX9.out]; rfl, sh.below⟩
end Go.Proofs.YtfcffglgkblidaaDoor
