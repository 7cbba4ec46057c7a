
/-
  The walk of the reference's Get.
-/
import Derived.Test.YtfcffglgkblidaaDoorEv5
namespace Go.Proofs.YtfcffglgkblidaaDoor
open Go.RowKit
set_option linter.unusedVariables false
set_option linter.unusedSimpArgs false

namespace EvP
def nths (l : List UInt8) (k : Nat) : List Value := (List.range k).map fun j => .int .u64 (nth l (j + 1) : Int)
theorem nths_snoc (l : List UInt8) (k : Nat) : nths l k ++ [.int .u64 (nth l (k + 1) : Int)] = nths l (k + 1) := by unfold nths; rw [List.range_succ, List.map_append]; rfl
theorem nths_length (l : List UInt8) (k : Nat) : (nths l k).length = k := by simp [nths]
theorem nths_get {l : List UInt8} {k i : Nat} (h : i < k) : (nths l k)[i]? = some (.int .u64 (nth l (i + 1) : Int)) := by simp [nths, h]
theorem st_next {l : List UInt8} {k : Nat} (h : (st l k).2.2 = 0) : WireP.takeL (st l k).2.1 = st l (k + 1) := by rw [st]; unfold tk; rw [if_neg (by rw [h]; simp)]
theorem nth_fits {l : List UInt8} (h : ∀ j, 1 ≤ j → j < 5 → nth l (j + 1) ≤ 1099511627776) : fitsB l = true := decide_eq_true ⟨h 1 (by omega) (by omega), h 2 (by omega) (by omega), h 3 (by omega) (by omega), h 4 (by omega) (by omega)⟩
theorem nth_not {l : List UInt8} {j : Nat} (h1 : 1 ≤ j) (h2 : j < 5) (h : ¬ nth l (j + 1) ≤ 1099511627776) : fitsB l = false := by
  refine decide_eq_false (fun q => h ?_)
  have h3 : j = 1 ∨ j = 2 ∨ j = 3 ∨ j = 4 := by omega
  rcases h3 with rfl | rfl | rfl | rfl
  · exact q.1
  · exact q.2.1
  · exact q.2.2.1
  · exact q.2.2.2
theorem fits_le {l : List UInt8} (h : fitsB l = true) : nth l 2 ≤ 1099511627776 ∧ nth l 3 ≤ 1099511627776 ∧ nth l 4 ≤ 1099511627776 ∧ nth l 5 ≤ 1099511627776 := of_decide_eq_true h
theorem row_snoc {e : TypeId} {v : Value} {l : List UInt8} {k : Nat} {R : List Hp.Blk} (h : Hp.RowIs e 1 v (k + 1) (nths l k ++ [.int .u64 (nth l (k + 1) : Int)]) R) : Hp.RowIs e 1 v (k + 1) (nths l (k + 1)) R := by rw [nths_snoc] at h; exact h
theorem nths_cells {W : World} {l : List UInt8} {g : Nat} (h : Hp.RdV W (some ⟨g, 0, none⟩) (nths l 5)) : W.cell? ⟨g, 0, none⟩ = some (.int .u64 (nth l 1 : Int)) ∧ W.cell? ⟨g, 1, none⟩ = some (.int .u64 (nth l 2 : Int)) ∧ W.cell? ⟨g, 2, none⟩ = some (.int .u64 (nth l 3 : Int)) ∧ W.cell? ⟨g, 3, none⟩ = some (.int .u64 (nth l 4 : Int)) ∧ W.cell? ⟨g, 4, none⟩ = some (.int .u64 (nth l 5 : Int)) := by
  have key : ∀ j, j < 5 → W.cell? ⟨g, j, none⟩ = some (.int .u64 (nth l (j + 1) : Int)) := fun j hj => by
    have := h.cell j (nths_get (l := l) hj)
    rwa [Hp.add_head] at this
  exact ⟨key 0 (by omega), key 1 (by omega), key 2 (by omega), key 3 (by omega), key 4 (by omega)⟩
theorem nths_cell {W : World} {l : List UInt8} {g k : Nat} (hk : k < 5) (h : Hp.RdV W (some ⟨g, 0, none⟩) (nths l 5)) : W.cell? ⟨g, k, none⟩ = some (.int .u64 (nth l (k + 1) : Int)) := by
  have := h.cell k (nths_get (l := l) hk)
  rwa [Hp.add_head] at this
end EvP
theorem Hp.RowIs.head {e : TypeId} {v : Value} {n : Nat} {xs : List Value} {R : List Hp.Blk} (h : Hp.RowIs e 1 v n xs R) (hn : 0 < n) : ∃ g cap, v = .slice (some ⟨g, 0, none⟩) n cap ∧ n ≤ cap := by
  rcases h.2 with ⟨-, rfl, -⟩ | ⟨g, cap, cur, rfl, _, h1, _⟩
  · omega
  · exact ⟨g, cap, rfl, h1⟩

theorem Tryd.i_u64 : (Tryd.prog.info? 25).map (fun i => (i.zero, i.size, i.bytes)) = some (some (.int .u64 0), 1, 8) := by kernel_rfl
set_option maxHeartbeats 4000000 in set_option maxRecDepth 100000 in
theorem erget_nil (w : World) : Calls Tryd.prog 75 #[.string (bstr [])] w fun e w' => e = .returned (EvP.getV []) ∧ Below w.heap.size w w' := by
  have sh : Hp.Sh w w [] (fun _ => True) := Hp.Sh.start (fun _ _ => trivial)
  have n1 : ((bstr []).toList == []) = true := by rw [bstr_toList]; rfl
  go_enter Tryd.func75, Tryd.ntmps75
  have F := sh.fx
  have tok_b2 : True := trivial
  go_wp2_with (first
      | ((with_reducible first | refine Hp.wpl_box sh ?_ ?_ | refine Hp.wpa sh ?_ ?_ | refine Hp.atl_store ?_ ?_); exact rfl; (try (refine Hp.wsB sh ?_)); clear sh; (try clear F); go_simp; (first | (have tok := tok_b2; clear tok tok_b2; intro b2 w1 sh) | intro b w1 sh | intro w1 sh); have F := sh.fx)
      | fail)
  all_goals first
    | exact bodyPost_ret (Hp.res_ct rfl rfl (sh.load 0 rfl (by kernel_rfl) (by kernel_rfl))) rfl ⟨rfl, sh.below⟩
    | skip

set_option maxHeartbeats 4000000 in set_option maxRecDepth 100000 in
theorem erget_cons (c : UInt8) (l : List UInt8) (hl : l.length ≤ 40000) (w : World) : Calls Tryd.prog 75 #[.string (bstr (c :: l))] w fun e w' => e = .returned (EvP.getV (c :: l)) ∧ Below w.heap.size w w' := by
  have sh : Hp.Sh w w [] (fun _ => True) := Hp.Sh.start (fun _ _ => trivial)
  have n1 : ((bstr (c :: l)).toList == []) = false := by rw [bstr_toList]; rfl
  have n2 : (bstr (c :: l)).size = l.length + 1 := by rw [bstr_size]; rfl
  have n3 : (bstr (c :: l)).extract 1 (l.length + 1) = bstr l := by
    rw [bstr_extract, bstr_data]; simp
  have n4 : (bstr (c :: l))[0]'(by omega) = c := rfl
  have hst := Lib.hid (fun k => Nat.le_trans (EvP.st_len l k) hl)
  have hc := c.toNat_lt
  go_enter Tryd.func75, Tryd.ntmps75
  have F := sh.fx
  have tok_b2 : True := trivial
  go_wp2_with (first
      | ((with_reducible first | refine Hp.wpl_box sh ?_ ?_ | refine Hp.wpa sh ?_ ?_ | refine Hp.atl_store ?_ ?_); exact rfl; (try (refine Hp.wsB sh ?_)); clear sh; (try clear F); go_simp; (first | (have tok := tok_b2; clear tok tok_b2; intro b2 w1 sh) | intro b w1 sh | intro w1 sh); have F := sh.fx)
      | fail)
  go_loopw [4, 5, 6] (fun v s i wr => ∃ (k : Nat) (R : List Hp.Blk), s = .string (bstr (EvP.st l k).2.1) ∧ i = .int .i64 k ∧ k ≤ 5 ∧ Hid ((EvP.st l k).2.2 = 0) ∧ Hid (Hp.RowIs 25 1 v k (EvP.nths l k) R) ∧ Hp.Sh w wr (R ++ [(b2, #[.int .u64 0, .int .i64 0, .int .i64 0, .int .i64 0, .int .i64 0, .int .i64 0], 47)]) (fun _ => True)) (fun _ _ i _ => 5 - (intOf i).toNat)
  case atStart => exact ⟨0, [], rfl, rfl, by omega, rfl, (Hp.RowIs.nil 25 1 : _), sh⟩
  case round =>
    clear sh F
    obtain ⟨k, R, rfl, rfl, hk, HE, HR, sh⟩ := hrel
    by_cases hlt : k < 5
    · have hlI : (k : Int) < 5 := by omega
      have H1 := fun W => wireRefTake_any (bstr (EvP.st l k).2.1) W (by rw [bstr_size]; have := hst.out k; omega)
      have hn := EvP.nth_lt l (k + 1)
      have HC := Lib.hid (fun (e : Int) (h : (EvP.st l (k + 1)).2.2 = e) (he : e ≠ 0) => (by rw [EvP.getV_cons, EvP.fin_err (e := e) (by rw [EvP.st_err (by rw [h]; exact he) (by omega : k + 1 ≤ 5), h]) he] : EvP.getV (c :: l) = .tuple #[EvP.evV EvP.zero, .int .i64 e]))
      simp only [bstr_data, WireP.takeV_of (EvP.st_next HE.out)] at H1
      have H2 := Lib.hid H1
      clear H1
      generalize hx : (EvP.st l (k + 1)).2.2 = x at H2
      by_cases he : x = 0
      · subst he
        have HX := Lib.hid hx
        clear hx
        have F := (Hp.Sh.dropA sh).facts
        (try simp only [Hp.Facts, Hp.CellsAt, Nat.reduceAdd, Hp.c1, Hp.c2] at F)
        change Hid (∀ W, Calls _ _ _ W fun e w' => e = .returned (.tuple #[.int .u64 (EvP.nth l (k + 1) : Int), _, _]) ∧ _) at H2
        generalize hN : EvP.nth l (k + 1) = n at H2 hn
        have HN := Lib.hid hN
        clear hN
        go_wp2_with (first
            | ((with_reducible first | refine Hp.wpl_box sh ?_ ?_ | refine Hp.wpa sh ?_ ?_ | refine Hp.atl_store ?_ ?_); exact rfl; (try (refine Hp.wsB sh ?_)); clear sh; (try clear F); go_simp; (first | intro b w1 sh | intro w1 sh); have F := sh.fx)
            | fail)
        go_fit (H2.out _)
        rintro e w1 ⟨rfl, hb⟩
        replace sh := sh.call hb; clear hb; (try clear F); have F := sh.fx
        go_wp2_with (first
            | ((with_reducible refine Hp.atl_lit ?_ ?_); exact rfl; (refine Hp.wp_lit 1 [Value.int .u64 n] Tryd.i_u64 Tryd.underlying108 sh rfl rfl (by omega) rfl ?_); clear sh; (try clear F); intro b w1 sh; replace sh := sh.freeze1 (vs := [Value.int .u64 n]) (fun i v h => by simpa using h); have F := sh.fx; go_simp)
            | ((with_reducible refine Hp.atl_append 31 ?_ ?_); exact rfl; (refine Hp.wp_append (R := R) (news := [Value.int .u64 n]) Tryd.i_u64 Tryd.underlying108 (by decide) rfl (by decide) sh HR.out rfl rfl rfl sh.data.1 (fun h => by cases h) (Hp.ones_mem rfl) (by omega) ?_); clear sh; (try clear F); intro v1 R1 w1 sh hr; have HR1 := Lib.hid hr; clear hr; go_simp)
            | ((with_reducible first | refine Hp.wpl_box sh ?_ ?_ | refine Hp.wpa sh ?_ ?_ | refine Hp.atl_store ?_ ?_); exact rfl; (try (refine Hp.wsB sh ?_)); clear sh; (try clear F); go_simp; (first | intro b w1 sh | intro w1 sh); have F := sh.fx)
            | fail)
        go_roundw
        case rel => exact ⟨k + 1, R1, rfl, by go_num, by omega, HX.out, EvP.row_snoc (by rw [HN.out]; exact HR1.out), sh.imp fun W h => h.2⟩
        case measure => simp [intOf]; omega
      · have HV := Lib.hid (HC.out x hx he)
        have m1 : (x != 0) = true := by rw [bne_iff_ne]; exact he
        clear hx HC
        replace sh := Hp.Sh.dropA sh
        have F := sh.fx
        go_wp2_with (first
            | ((with_reducible first | refine Hp.wpl_box sh ?_ ?_ | refine Hp.wpa sh ?_ ?_ | refine Hp.atl_store ?_ ?_); exact rfl; (try (refine Hp.wsB sh ?_)); clear sh; (try clear F); go_simp; (first | intro b w1 sh | intro w1 sh); have F := sh.fx)
            | fail)
        go_fit (H2.out _)
        rintro e w1 ⟨rfl, hb⟩
        replace sh := sh.call hb; clear hb; (try clear F); have F := sh.fx
        go_wp2_with (first
            | ((with_reducible first | refine Hp.wpl_box sh ?_ ?_ | refine Hp.wpa sh ?_ ?_ | refine Hp.atl_store ?_ ?_); exact rfl; (try (refine Hp.wsB sh ?_)); clear sh; (try clear F); go_simp; (first | intro b w1 sh | intro w1 sh); have F := sh.fx)
            | fail)
        exact bodyPost_ret (Hp.res_ct rfl rfl (sh.load 0 rfl (by kernel_rfl) (by kernel_rfl))) rfl ⟨congrArg Ending.returned HV.out.symm, sh.below⟩
    · obtain rfl : k = 5 := by omega
      obtain ⟨g, cp, rfl, hcp⟩ := HR.out.head (by omega)
      replace sh := (sh.freeze HR.out).imp (fun W h => h.1)
      clear HR
      have HC := Lib.hid (fun W h => EvP.nths_cells (W := W) (l := l) (g := g) h)
      have F := sh.fx; (try clear hcs); (try (first | (have hcs := HC.out _ (sh.data)) | (have hcs := HC.out _ (sh.data.2)) | (have hcs := HC.out _ (sh.data.2.2)) | (have hcs := HC.out _ (sh.data.2.2.2)) | (have hcs := HC.out _ (sh.data.2.2.2.2))))
      go_wp2_with (first
          | ((with_reducible first | refine Hp.wpl_box sh ?_ ?_ | refine Hp.wpa sh ?_ ?_ | refine Hp.atl_store ?_ ?_); exact rfl; (try (refine Hp.wsB sh ?_)); clear sh; (try clear F); go_simp; (first | intro b w1 sh | intro w1 sh); have F := sh.fx; (try clear hcs); (try (first | (have hcs := HC.out _ (sh.data)) | (have hcs := HC.out _ (sh.data.2)) | (have hcs := HC.out _ (sh.data.2.2)) | (have hcs := HC.out _ (sh.data.2.2.2)) | (have hcs := HC.out _ (sh.data.2.2.2.2)))))
          | fail)
      go_loopw [10] (fun i wr => ∃ k : Nat, i = .int .i64 k ∧ 1 ≤ k ∧ k ≤ 5 ∧ Hid (∀ j, 1 ≤ j → j < k → EvP.nth l (j + 1) ≤ 1099511627776) ∧ Hp.Sh w wr [(b2, #[.int .u64 0, .int .i64 0, .int .i64 0, .int .i64 0, .int .i64 0, .int .i64 0], 47)] (fun W => Hp.RdV W (some ⟨g, 0, none⟩) (EvP.nths l 5))) (fun i _ => 5 - (intOf i).toNat)
      case atStart => exact ⟨1, rfl, by omega, by omega, fun j h1 h2 => by omega, sh⟩
      case round =>
        clear sh F
        obtain ⟨k, rfl, hk1, hk2, HM, sh⟩ := hrel
        have F := sh.fx; (try clear hcs); (try (first | (have hcs := HC.out _ (sh.data)) | (have hcs := HC.out _ (sh.data.2)) | (have hcs := HC.out _ (sh.data.2.2)) | (have hcs := HC.out _ (sh.data.2.2.2)) | (have hcs := HC.out _ (sh.data.2.2.2.2))))
        by_cases hlt : k < 5
        · have hlI : (k : Int) < 5 := by omega
          have hck := EvP.nths_cell hlt sh.data
          by_cases hle : EvP.nth l (k + 1) ≤ 1099511627776
          · have hM2 := Lib.hid (fun j (h1 : 1 ≤ j) (h2 : j < k + 1) => (by by_cases h3 : j = k; (subst h3; exact hle); exact HM.out j h1 (by omega) : EvP.nth l (j + 1) ≤ 1099511627776))
            generalize EvP.nth l (k + 1) = n at hck hle
            have hd1 : ¬ (1099511627776 < (n : Int)) := by omega
            go_wp2_with (first
                | ((with_reducible first | refine Hp.wpl_box sh ?_ ?_ | refine Hp.wpa sh ?_ ?_ | refine Hp.atl_store ?_ ?_); exact rfl; (try (refine Hp.wsB sh ?_)); clear sh; (try clear F); go_simp; (first | intro b w1 sh | intro w1 sh); have F := sh.fx; (try clear hcs); (try (first | (have hcs := HC.out _ (sh.data)) | (have hcs := HC.out _ (sh.data.2)) | (have hcs := HC.out _ (sh.data.2.2)) | (have hcs := HC.out _ (sh.data.2.2.2)) | (have hcs := HC.out _ (sh.data.2.2.2.2)))))
                | fail)
            go_roundw
            case rel => exact ⟨k + 1, by go_num, by omega, by omega, hM2.out, sh⟩
            case measure => simp [intOf]; omega
          · have hNF := Lib.hid (EvP.nth_not hk1 hlt hle)
            generalize EvP.nth l (k + 1) = n at hck hle
            have hd1 : 1099511627776 < (n : Int) := by omega
            go_wp2_with (first
                | ((with_reducible first | refine Hp.wpl_box sh ?_ ?_ | refine Hp.wpa sh ?_ ?_ | refine Hp.atl_store ?_ ?_); exact rfl; (try (refine Hp.wsB sh ?_)); clear sh; (try clear F); go_simp; (first | intro b w1 sh | intro w1 sh); have F := sh.fx; (try clear hcs); (try (first | (have hcs := HC.out _ (sh.data)) | (have hcs := HC.out _ (sh.data.2)) | (have hcs := HC.out _ (sh.data.2.2)) | (have hcs := HC.out _ (sh.data.2.2.2)) | (have hcs := HC.out _ (sh.data.2.2.2.2)))))
                | fail)
            exact bodyPost_ret (Hp.res_ct rfl rfl (sh.load 0 rfl (by kernel_rfl) (by kernel_rfl))) rfl ⟨congrArg Ending.returned (show EvP.getV (c :: l) = _ by rw [EvP.getV_cons, EvP.fin_no HE.out (fun h => by have := hNF.out.symm.trans h.2.1; cases this)]; rfl).symm, sh.below⟩
        · obtain rfl : k = 5 := by omega
          have hfit := EvP.nth_fits HM.out
          obtain ⟨f2, f3, f4, f5⟩ := EvP.fits_le hfit
          have HF := Lib.hid hfit
          clear hfit
          have q1 := EvP.nth_lt l 1
          have H1 := fun W => eris (EvP.nth l 1) (EvP.nth l 2) ((EvP.nth l 3 : Int) - 1) c.toNat (EvP.nth l 4) (EvP.nth l 5) W (by omega) (by omega) (by omega) (by omega) (by omega) (by omega)
          have hev : EvP.ev c l = ((EvP.nth l 1 : Int), (EvP.nth l 2 : Int), (EvP.nth l 3 : Int) - 1, (c.toNat : Int), (EvP.nth l 4 : Int), (EvP.nth l 5 : Int)) := by
            unfold EvP.ev; rw [EvP.bnd_le f2, EvP.bnd_le f3, EvP.bnd_le f4, EvP.bnd_le f5]
          have HY := Lib.hid (fun h1 h2 => (EvP.fin_yes (c := c) HE.out ⟨h1, HF.out, h2⟩).trans (by rw [hev]))
          have HN := Lib.hid (fun h => EvP.fin_no (c := c) HE.out h)
          have HB : EvP.isB (EvP.ev c l) = EvP.isB ((EvP.nth l 1 : Int), (EvP.nth l 2 : Int), (EvP.nth l 3 : Int) - 1, (c.toNat : Int), (EvP.nth l 4 : Int), (EvP.nth l 5 : Int)) := by rw [hev]
          have HBH := Lib.hid HB
          clear HB hev
          generalize EvP.nth l 1 = v1 at *
          generalize EvP.nth l 2 = v2 at *
          generalize EvP.nth l 3 = v3 at *
          generalize EvP.nth l 4 = v4 at *
          generalize EvP.nth l 5 = v5 at *
          have w2 := EvP.wrapi (k := (v2 : Int)) (by omega) (by omega)
          have w3 := EvP.wrapi (k := (v3 : Int)) (by omega) (by omega)
          have w4 := EvP.wrapi (k := (v4 : Int)) (by omega) (by omega)
          have w5 := EvP.wrapi (k := (v5 : Int)) (by omega) (by omega)
          have w6 : IntKind.i64.wrap ((v3 : Int) - 1) = (v3 : Int) - 1 := IntWalk.i64_in _ (by omega)
          have w7 := EvP.wrapi (k := (c.toNat : Int)) (by omega) (by omega)
          go_wp2_with (first
              | ((with_reducible first | refine Hp.wpl_box sh ?_ ?_ | refine Hp.wpa sh ?_ ?_ | refine Hp.atl_store ?_ ?_); exact rfl; (try (refine Hp.wsB sh ?_)); clear sh; (try clear F); go_simp; (first | intro b w1 sh | intro w1 sh); have F := sh.fx; (try clear hcs); (try (first | (have hcs := HC.out _ (sh.data)) | (have hcs := HC.out _ (sh.data.2)) | (have hcs := HC.out _ (sh.data.2.2)) | (have hcs := HC.out _ (sh.data.2.2.2)) | (have hcs := HC.out _ (sh.data.2.2.2.2)))))
              | fail)
          refine Hp.region_soft (by kernel_rfl) sh (fun _ q => q) ?_; clear sh; (try clear F)
          (try simp only [Hp.p2, Hp.p3])
          (refine Hp.tks (i := 0) (oi := ⟨some 46, Op.move (Operand.tmp 4), _, _, _, none⟩) (fun _ q => q) ?_)
          (refine Hp.tks (i := 1) (oi := ⟨some 47, Op.indexAddr 108 (Operand.tmp 46) (Operand.const (Value.int IntKind.i64 0)), _, _, _, none⟩) (fun _ q => q) ?_)
          (refine Hp.tk (i := 2) (oi := ⟨some 48, Op.load 25 (Operand.tmp 47), _, _, _, none⟩) _ (fun _ q => q) (fun W hW => by (have F := Hp.Sh.facts hW); (have hd := Hp.Sh.data hW); (try simp only [Hp.Facts, Hp.CellsAt, Nat.reduceAdd, Hp.c1, Hp.c2] at F); have hcs := HC.out _ hd; go_simp; (try with_reducible rfl)) ?_)
          (refine Hp.tks (i := 3) (oi := ⟨some 49, Op.move (Operand.tmp 4), _, _, _, none⟩) (fun _ q => q) ?_)
          (refine Hp.tks (i := 4) (oi := ⟨some 50, Op.indexAddr 108 (Operand.tmp 49) (Operand.const (Value.int IntKind.i64 1)), _, _, _, none⟩) (fun _ q => q) ?_)
          (refine Hp.tk (i := 5) (oi := ⟨some 51, Op.load 25 (Operand.tmp 50), _, _, _, none⟩) _ (fun _ q => q) (fun W hW => by (have F := Hp.Sh.facts hW); (have hd := Hp.Sh.data hW); (try simp only [Hp.Facts, Hp.CellsAt, Nat.reduceAdd, Hp.c1, Hp.c2] at F); have hcs := HC.out _ hd; go_simp; (try with_reducible rfl)) ?_)
          (refine Hp.tks (i := 6) (oi := ⟨some 52, Op.convert 25 3 (Operand.tmp 51), _, _, _, none⟩) (fun _ q => q) ?_)
          (refine Hp.tks (i := 7) (oi := ⟨some 53, Op.move (Operand.tmp 4), _, _, _, none⟩) (fun _ q => q) ?_)
          (refine Hp.tks (i := 8) (oi := ⟨some 54, Op.indexAddr 108 (Operand.tmp 53) (Operand.const (Value.int IntKind.i64 2)), _, _, _, none⟩) (fun _ q => q) ?_)
          (refine Hp.tk (i := 9) (oi := ⟨some 55, Op.load 25 (Operand.tmp 54), _, _, _, none⟩) _ (fun _ q => q) (fun W hW => by (have F := Hp.Sh.facts hW); (have hd := Hp.Sh.data hW); (try simp only [Hp.Facts, Hp.CellsAt, Nat.reduceAdd, Hp.c1, Hp.c2] at F); have hcs := HC.out _ hd; go_simp; (try with_reducible rfl)) ?_)
          (refine Hp.tks (i := 10) (oi := ⟨some 56, Op.convert 25 3 (Operand.tmp 55), _, _, _, none⟩) (fun _ q => q) ?_)
          (refine Hp.tks (i := 11) (oi := ⟨some 57, Op.binOp BinOp.sub 3 (Operand.tmp 56) (Operand.const (Value.int IntKind.i64 1)) 3, _, _, _, none⟩) (fun _ q => q) ?_)
          (refine Hp.tks (i := 12) (oi := ⟨some 58, Op.move (Operand.tmp 0), _, _, _, none⟩) (fun _ q => q) ?_)
          (refine Hp.tks (i := 13) (oi := ⟨some 59, Op.index 9 (Operand.tmp 58) (Operand.const (Value.int IntKind.i64 0)), _, _, _, none⟩) (fun _ q => q) ?_)
          (refine Hp.tks (i := 14) (oi := ⟨some 60, Op.convert 5 3 (Operand.tmp 59), _, _, _, none⟩) (fun _ q => q) ?_)
          (refine Hp.tks (i := 15) (oi := ⟨some 61, Op.move (Operand.tmp 4), _, _, _, none⟩) (fun _ q => q) ?_)
          (refine Hp.tks (i := 16) (oi := ⟨some 62, Op.indexAddr 108 (Operand.tmp 61) (Operand.const (Value.int IntKind.i64 3)), _, _, _, none⟩) (fun _ q => q) ?_)
          (refine Hp.tk (i := 17) (oi := ⟨some 63, Op.load 25 (Operand.tmp 62), _, _, _, none⟩) _ (fun _ q => q) (fun W hW => by (have F := Hp.Sh.facts hW); (have hd := Hp.Sh.data hW); (try simp only [Hp.Facts, Hp.CellsAt, Nat.reduceAdd, Hp.c1, Hp.c2] at F); have hcs := HC.out _ hd; go_simp; (try with_reducible rfl)) ?_)
          (refine Hp.tks (i := 18) (oi := ⟨some 64, Op.convert 25 3 (Operand.tmp 63), _, _, _, none⟩) (fun _ q => q) ?_)
          (refine Hp.tks (i := 19) (oi := ⟨some 65, Op.move (Operand.tmp 4), _, _, _, none⟩) (fun _ q => q) ?_)
          (refine Hp.tks (i := 20) (oi := ⟨some 66, Op.indexAddr 108 (Operand.tmp 65) (Operand.const (Value.int IntKind.i64 4)), _, _, _, none⟩) (fun _ q => q) ?_)
          (refine Hp.tk (i := 21) (oi := ⟨some 67, Op.load 25 (Operand.tmp 66), _, _, _, none⟩) _ (fun _ q => q) (fun W hW => by (have F := Hp.Sh.facts hW); (have hd := Hp.Sh.data hW); (try simp only [Hp.Facts, Hp.CellsAt, Nat.reduceAdd, Hp.c1, Hp.c2] at F); have hcs := HC.out _ hd; go_simp; (try with_reducible rfl)) ?_)
          (refine Hp.tks (i := 22) (oi := ⟨some 68, Op.convert 25 3 (Operand.tmp 67), _, _, _, none⟩) (fun _ q => q) ?_)
          (refine Hp.tks (i := 23) (oi := ⟨some 69, Op.build 47 #[(0, Operand.tmp 48), (1, Operand.tmp 52), (2, Operand.tmp 57), (3, Operand.tmp 60), (4, Operand.tmp 64), (5, Operand.tmp 68)], _, _, _, none⟩) (fun _ q => q) ?_)
          refine Hp.soft_make (i := 24) (o := ⟨some 11, Op.alloc 47, _, _, _, none⟩) (by kernel_rfl) rfl (by rfl) (fun w1 sh K hK => ?_); (try clear F); (try have F := Hp.Sh.facts sh); (try simp only [Hp.Facts, Hp.CellsAt, Nat.reduceAdd, Hp.c1, Hp.c2] at F); (refine Hp.wp_alloc Tryd.z_ev sh ?_; clear sh; intro b3 w1 sh); refine hK _ _ _ _ _ _ (fun _ q => (Hp.Sh.drop1 q)) (fun _ q => q) sh ?_; clear hK K; clear sh; (try clear F); (try simp only [Act.put, Hp.p1, Hp.p2, Hp.p3])
          refine Hp.soft_make (i := 25) (o := ⟨none, Op.store 47 (Operand.tmp 11) (Operand.tmp 69), _, _, _, none⟩) (by kernel_rfl) rfl (by rfl) (fun w1 sh K hK => ?_); (try clear F); (try have F := Hp.Sh.facts sh); (try simp only [Hp.Facts, Hp.CellsAt, Nat.reduceAdd, Hp.c1, Hp.c2] at F); (refine Hp.wp_store 0 sh rfl rfl rfl rfl (by kernel_rfl) (Nat.le_of_ble_eq_true rfl) rfl ?_; clear sh; go_simp; intro w1 sh); refine hK _ _ _ _ _ _ (fun _ q => (Hp.Sh.drop1 q)) (fun _ q => q) sh ?_; clear hK K; clear sh; (try clear F); (try simp only [Act.put, Hp.p1, Hp.p2, Hp.p3])
          refine Hp.soft_done (by kernel_rfl) (fun w1 sh => ?_) _; (try clear F); (try have F := Hp.Sh.facts sh); (try simp only [Hp.Facts, Hp.CellsAt, Nat.reduceAdd, Hp.c1, Hp.c2] at F)
          generalize hr : (EvP.st l 5).2.1 = r
          rcases r with _ | ⟨r0, rs⟩
          · have m1 : ((bstr []).toList == []) = true := by rw [bstr_toList]; rfl
            have m2 : ((bstr []).toList != []) = false := by rw [bne, m1]; rfl
            have m3 : bstr [] = ⟨#[]⟩ := rfl
            have HR := Lib.hid hr
            clear hr
            cases hi : EvP.isB ((v1 : Int), (v2 : Int), (v3 : Int) - 1, (c.toNat : Int), (v4 : Int), (v5 : Int)) with
            | false =>
              rw [hi] at H1
              have H2 := Lib.hid H1
              have HI := Lib.hid hi
              clear H1 hi
              go_wp2_with (first
                  | ((with_reducible first | refine Hp.wpl_box sh ?_ ?_ | refine Hp.wpa sh ?_ ?_ | refine Hp.atl_store ?_ ?_); exact rfl; (try (refine Hp.wsB sh ?_)); clear sh; (try clear F); go_simp; (first | intro b w1 sh | intro w1 sh); have F := sh.fx; (try clear hcs); (try (first | (have hcs := HC.out _ (sh.data)) | (have hcs := HC.out _ (sh.data.2)) | (have hcs := HC.out _ (sh.data.2.2)) | (have hcs := HC.out _ (sh.data.2.2.2)) | (have hcs := HC.out _ (sh.data.2.2.2.2)))))
                  | fail)
              go_fit (H2.out _)
              rintro e w1 ⟨rfl, hb⟩
              replace sh := sh.call hb; clear hb; (try clear F); have F := sh.fx; (try clear hcs); (try (first | (have hcs := HC.out _ (sh.data)) | (have hcs := HC.out _ (sh.data.2)) | (have hcs := HC.out _ (sh.data.2.2)) | (have hcs := HC.out _ (sh.data.2.2.2)) | (have hcs := HC.out _ (sh.data.2.2.2.2))))
              go_wp2_with (first
                  | ((with_reducible first | refine Hp.wpl_box sh ?_ ?_ | refine Hp.wpa sh ?_ ?_ | refine Hp.atl_store ?_ ?_); exact rfl; (try (refine Hp.wsB sh ?_)); clear sh; (try clear F); go_simp; (first | intro b w1 sh | intro w1 sh); have F := sh.fx; (try clear hcs); (try (first | (have hcs := HC.out _ (sh.data)) | (have hcs := HC.out _ (sh.data.2)) | (have hcs := HC.out _ (sh.data.2.2)) | (have hcs := HC.out _ (sh.data.2.2.2)) | (have hcs := HC.out _ (sh.data.2.2.2.2)))))
                  | fail)
              exact bodyPost_ret (Hp.res_ct rfl rfl (sh.load 1 rfl (by kernel_rfl) (by kernel_rfl))) rfl ⟨congrArg Ending.returned (show EvP.getV (c :: l) = _ by rw [EvP.getV_cons, HN.out (fun h => by have := (HBH.out.symm.trans h.2.2).symm.trans HI.out; cases this)]; rfl).symm, sh.below⟩
            | true =>
              rw [hi] at H1
              have H2 := Lib.hid H1
              have HI := Lib.hid hi
              clear H1 hi
              go_wp2_with (first
                  | ((with_reducible first | refine Hp.wpl_box sh ?_ ?_ | refine Hp.wpa sh ?_ ?_ | refine Hp.atl_store ?_ ?_); exact rfl; (try (refine Hp.wsB sh ?_)); clear sh; (try clear F); go_simp; (first | intro b w1 sh | intro w1 sh); have F := sh.fx; (try clear hcs); (try (first | (have hcs := HC.out _ (sh.data)) | (have hcs := HC.out _ (sh.data.2)) | (have hcs := HC.out _ (sh.data.2.2)) | (have hcs := HC.out _ (sh.data.2.2.2)) | (have hcs := HC.out _ (sh.data.2.2.2.2)))))
                  | fail)
              go_fit (H2.out _)
              rintro e w1 ⟨rfl, hb⟩
              replace sh := sh.call hb; clear hb; (try clear F); have F := sh.fx; (try clear hcs); (try (first | (have hcs := HC.out _ (sh.data)) | (have hcs := HC.out _ (sh.data.2)) | (have hcs := HC.out _ (sh.data.2.2)) | (have hcs := HC.out _ (sh.data.2.2.2)) | (have hcs := HC.out _ (sh.data.2.2.2.2))))
              go_wp2_with (first
                  | ((with_reducible first | refine Hp.wpl_box sh ?_ ?_ | refine Hp.wpa sh ?_ ?_ | refine Hp.atl_store ?_ ?_); exact rfl; (try (refine Hp.wsB sh ?_)); clear sh; (try clear F); go_simp; (first | intro b w1 sh | intro w1 sh); have F := sh.fx; (try clear hcs); (try (first | (have hcs := HC.out _ (sh.data)) | (have hcs := HC.out _ (sh.data.2)) | (have hcs := HC.out _ (sh.data.2.2)) | (have hcs := HC.out _ (sh.data.2.2.2)) | (have hcs := HC.out _ (sh.data.2.2.2.2)))))
                  | fail)
              exact bodyPost_ret (Hp.res_ct rfl rfl (sh.load 1 rfl (by kernel_rfl) (by kernel_rfl))) rfl ⟨congrArg Ending.returned (show EvP.getV (c :: l) = _ by rw [EvP.getV_cons, HY.out HR.out (HBH.out.trans HI.out)]; rfl).symm, sh.below⟩
          · have m1 : ((bstr (r0 :: rs)).toList == []) = false := by rw [bstr_toList]; rfl
            have m2 : ((bstr (r0 :: rs)).toList != []) = true := by rw [bne, m1]; rfl
            have m3 : ¬ bstr (r0 :: rs) = ⟨#[]⟩ := fun h => by have := bstr_inj (b := []) h; cases this
            have HR := Lib.hid hr
            clear hr
            go_wp2_with (first
                | ((with_reducible first | refine Hp.wpl_box sh ?_ ?_ | refine Hp.wpa sh ?_ ?_ | refine Hp.atl_store ?_ ?_); exact rfl; (try (refine Hp.wsB sh ?_)); clear sh; (try clear F); go_simp; (first | intro b w1 sh | intro w1 sh); have F := sh.fx; (try clear hcs); (try (first | (have hcs := HC.out _ (sh.data)) | (have hcs := HC.out _ (sh.data.2)) | (have hcs := HC.out _ (sh.data.2.2)) | (have hcs := HC.out _ (sh.data.2.2.2)) | (have hcs := HC.out _ (sh.data.2.2.2.2)))))
                | fail)
            exact bodyPost_ret (Hp.res_ct rfl rfl (sh.load 1 rfl (by kernel_rfl) (by kernel_rfl))) rfl ⟨congrArg Ending.returned (show EvP.getV (c :: l) = _ by rw [EvP.getV_cons, HN.out (fun h => by have := HR.out.symm.trans h.1; cases this)]; rfl).symm, sh.below⟩

end Go.Proofs.YtfcffglgkblidaaDoor
