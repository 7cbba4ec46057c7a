
/-
  The walk of the program's block.
-/
import Derived.Test.YtfcffglgkblidaaDoorDig3
import Derived.Test.YtfcffglgkblidaaDoorDig4
namespace Go.Proofs.YtfcffglgkblidaaDoor
open Go.RowKit
set_option linter.unusedVariables false
set_option linter.unusedSimpArgs false

namespace DigP
theorem plus_comm (v x : V8) : plus v x = plus x v := by
  obtain ⟨a, b, c, d, e, f, g, h⟩ := v
  obtain ⟨a', b', c', d', e', f', g', h'⟩ := x
  simp [plus, BitVec.add_comm]
theorem xor0 (x : Wd) : (0 : Wd) ^^^ x = x := BitVec.zero_xor
theorem turns3 (x : Wd) (i j k : Nat) : turn x i ^^^ turn x j ^^^ turn x k = turns x [i, j, k] := by
  show _ = (0 : Wd) ^^^ turn x i ^^^ turn x j ^^^ turn x k
  rw [xor0]
theorem round_next' {w : List Wd} {v : V8} {t : Nat} {a b c d e f g h : Wd} (hx : rounds w v t = (a, b, c, d, e, f, g, h)) :
    rounds w v (t + 1) = (h + turns e [6, 11, 25] + ((e &&& f) ^^^ (~~~e &&& g)) + consts.getD t 0 + w.getD t 0 + (turns a [2, 13, 22] + ((a &&& b) ^^^ (a &&& c) ^^^ (b &&& c))), a, b, c, d + (h + turns e [6, 11, 25] + ((e &&& f) ^^^ (~~~e &&& g)) + consts.getD t 0 + w.getD t 0), e, f, g) := by
  rw [round_next hx, turns3, turns3]
theorem bnotk (x : Wd) : bits .xor .u32 (-1) (x.toNat : Int) = ((~~~x).toNat : Int) := by
  have h : bits .xor .u32 (-1) (x.toNat : Int) = bits .xor .u32 IntKind.u32.max (x.toNat : Int) := by
    show IntKind.u32.wrap ((BitVec.ofInt 32 (-1) ^^^ BitVec.ofInt 32 (x.toNat : Int)).toNat : Int) = IntKind.u32.wrap ((BitVec.ofInt 32 IntKind.u32.max ^^^ BitVec.ofInt 32 (x.toNat : Int)).toNat : Int)
    rw [show BitVec.ofInt 32 (-1) = BitVec.ofInt 32 IntKind.u32.max by decide]
  rw [h, bnot]
end DigP

set_option maxHeartbeats 8000000 in
set_option maxRecDepth 100000 in
theorem dblock (a0 b0 c0 d0 e0 f0 g0 h0 : DigP.Wd) (l : List UInt8) (hl : l.length = 64) (w : World) (hG : Hp.RdV w (some ⟨0, 0, none⟩) (DigP.wds DigP.consts)) : Calls Tryd.prog 56 #[.agg #[.int .u32 (a0.toNat : Int), .int .u32 (b0.toNat : Int), .int .u32 (c0.toNat : Int), .int .u32 (d0.toNat : Int), .int .u32 (e0.toNat : Int), .int .u32 (f0.toNat : Int), .int .u32 (g0.toNat : Int), .int .u32 (h0.toNat : Int)], .string (bstr l)] w fun e w' => e = .returned (.agg (DigP.v8 (DigP.block (a0, b0, c0, d0, e0, f0, g0, h0) l)).toArray) ∧ Below w.heap.size w w' := by
  have sh := Hp.Sh.start (RdV_rob hG)
  have K1 := Lib.hid (fun W => dwords l hl W)
  have HWL := Lib.hid (DigP.words_length l)
  unfold DigP.block
  generalize DigP.words l = ws at K1 HWL ⊢
  generalize hv : ((a0, b0, c0, d0, e0, f0, g0, h0) : DigP.V8) = v
  have HV := Lib.hid hv
  have HSZ := Lib.hid (show (DigP.wA ws).size = (DigP.wA DigP.zero64).size by rw [DigP.wA_size, HWL.out, DigP.wA_size]; rfl)
  have HON := Lib.hid (DigP.ones_wds ws)
  have HIF := Lib.hid (show (Tryd.prog.info? 104).map (·.size) = some (DigP.wA DigP.zero64).size by kernel_rfl)
  clear hv hG
  go_enter Tryd.func56, Tryd.ntmps56
  have F := sh.fx
  have tok_bv : True := trivial
  have tok_br : True := trivial
  go_wp2_with (first
      | ((with_reducible first | refine Hp.wpl_box sh ?_ ?_ | refine Hp.wpa sh ?_ ?_ | refine Hp.atl_store ?_ ?_); exact rfl; (try (refine Hp.wsB sh ?_)); clear sh; (try clear F); go_simp; (first | (have tok := tok_bv; clear tok tok_bv; intro bv w1 sh) | (have tok := tok_br; clear tok tok_br; intro br w1 sh) | intro b w1 sh | intro w1 sh); have F := sh.fx)
      | fail)
  go_step3
  go_wp2_with (first
      | ((with_reducible first | refine Hp.wpl_box sh ?_ ?_ | refine Hp.wpa sh ?_ ?_ | refine Hp.atl_store ?_ ?_); exact rfl; (try (refine Hp.wsB sh ?_)); clear sh; (try clear F); go_simp; (first | intro b w1 sh | intro w1 sh); have F := sh.fx)
      | fail)
  go_fit (K1.out _)
  rintro e w1 ⟨rfl, hb⟩
  replace sh := sh.call hb; clear hb; (try clear F); have F := sh.fx
  have tok_bw : True := trivial
  go_wp2_with (first
      | ((with_reducible refine Hp.atl_store ?_ ?_); exact rfl; (refine Hp.wp_store_all 0 sh rfl rfl rfl HSZ.out HIF.out HON.out ?_); clear sh; (try clear F); intro w1 sh; have F := sh.fx)
      | ((with_reducible first | refine Hp.wpl_box sh ?_ ?_ | refine Hp.wpa sh ?_ ?_ | refine Hp.atl_store ?_ ?_); exact rfl; (try (refine Hp.wsB sh ?_)); clear sh; (try clear F); go_simp; (first | (have tok := tok_bw; clear tok tok_bw; intro bw w1 sh) | intro b w1 sh | intro w1 sh); have F := sh.fx)
      | fail)
  clear HSZ HON HIF
  refine Hp.region_soft (by kernel_rfl) sh (fun _ q => q) ?_; clear sh; (try clear F)
  (try simp only [Hp.p2, Hp.p3])
  (refine Hp.tks (i := 0) (oi := ⟨some 21, Op.indexAddr 62 (Operand.tmp 2) (Operand.const (Value.int IntKind.i64 0)), _, _, _, none⟩) (fun _ q => q) ?_)
  (refine Hp.tk (i := 1) (oi := ⟨some 22, Op.load 61 (Operand.tmp 21), _, _, _, none⟩) _ (fun _ q => q) (fun W hW => by (have F := Hp.Sh.facts hW); (have hd := Hp.Sh.data hW); (try simp only [Hp.Facts, Hp.CellsAt, Nat.reduceAdd, Hp.c1, Hp.c2] at F); skip; go_simp; (try with_reducible rfl)) ?_)
  (refine Hp.tks (i := 2) (oi := ⟨some 23, Op.indexAddr 62 (Operand.tmp 2) (Operand.const (Value.int IntKind.i64 1)), _, _, _, none⟩) (fun _ q => q) ?_)
  (refine Hp.tk (i := 3) (oi := ⟨some 24, Op.load 61 (Operand.tmp 23), _, _, _, none⟩) _ (fun _ q => q) (fun W hW => by (have F := Hp.Sh.facts hW); (have hd := Hp.Sh.data hW); (try simp only [Hp.Facts, Hp.CellsAt, Nat.reduceAdd, Hp.c1, Hp.c2] at F); skip; go_simp; (try with_reducible rfl)) ?_)
  (refine Hp.tks (i := 4) (oi := ⟨some 25, Op.indexAddr 62 (Operand.tmp 2) (Operand.const (Value.int IntKind.i64 2)), _, _, _, none⟩) (fun _ q => q) ?_)
  (refine Hp.tk (i := 5) (oi := ⟨some 26, Op.load 61 (Operand.tmp 25), _, _, _, none⟩) _ (fun _ q => q) (fun W hW => by (have F := Hp.Sh.facts hW); (have hd := Hp.Sh.data hW); (try simp only [Hp.Facts, Hp.CellsAt, Nat.reduceAdd, Hp.c1, Hp.c2] at F); skip; go_simp; (try with_reducible rfl)) ?_)
  (refine Hp.tks (i := 6) (oi := ⟨some 27, Op.indexAddr 62 (Operand.tmp 2) (Operand.const (Value.int IntKind.i64 3)), _, _, _, none⟩) (fun _ q => q) ?_)
  (refine Hp.tk (i := 7) (oi := ⟨some 28, Op.load 61 (Operand.tmp 27), _, _, _, none⟩) _ (fun _ q => q) (fun W hW => by (have F := Hp.Sh.facts hW); (have hd := Hp.Sh.data hW); (try simp only [Hp.Facts, Hp.CellsAt, Nat.reduceAdd, Hp.c1, Hp.c2] at F); skip; go_simp; (try with_reducible rfl)) ?_)
  (refine Hp.tks (i := 8) (oi := ⟨some 6, Op.assign (Operand.tmp 22), _, _, _, none⟩) (fun _ q => q) ?_)
  (refine Hp.tks (i := 9) (oi := ⟨some 7, Op.assign (Operand.tmp 24), _, _, _, none⟩) (fun _ q => q) ?_)
  (refine Hp.tks (i := 10) (oi := ⟨some 8, Op.assign (Operand.tmp 26), _, _, _, none⟩) (fun _ q => q) ?_)
  (refine Hp.tks (i := 11) (oi := ⟨some 9, Op.assign (Operand.tmp 28), _, _, _, none⟩) (fun _ q => q) ?_)
  refine Hp.soft_done (by kernel_rfl) (fun w1 sh => ?_) _; (try clear F); (try have F := Hp.Sh.facts sh); (try simp only [Hp.Facts, Hp.CellsAt, Nat.reduceAdd, Hp.c1, Hp.c2] at F)
  go_wp2_with (first
      | ((with_reducible first | refine Hp.wpl_box sh ?_ ?_ | refine Hp.wpa sh ?_ ?_ | refine Hp.atl_store ?_ ?_); exact rfl; (try (refine Hp.wsB sh ?_)); clear sh; (try clear F); go_simp; (first | intro b w1 sh | intro w1 sh); have F := sh.fx)
      | fail)
  refine Hp.region_soft (by kernel_rfl) sh (fun _ q => q) ?_; clear sh; (try clear F)
  (try simp only [Hp.p2, Hp.p3])
  (refine Hp.tks (i := 0) (oi := ⟨some 29, Op.indexAddr 62 (Operand.tmp 2) (Operand.const (Value.int IntKind.i64 4)), _, _, _, none⟩) (fun _ q => q) ?_)
  (refine Hp.tk (i := 1) (oi := ⟨some 30, Op.load 61 (Operand.tmp 29), _, _, _, none⟩) _ (fun _ q => q) (fun W hW => by (have F := Hp.Sh.facts hW); (have hd := Hp.Sh.data hW); (try simp only [Hp.Facts, Hp.CellsAt, Nat.reduceAdd, Hp.c1, Hp.c2] at F); skip; go_simp; (try with_reducible rfl)) ?_)
  (refine Hp.tks (i := 2) (oi := ⟨some 31, Op.indexAddr 62 (Operand.tmp 2) (Operand.const (Value.int IntKind.i64 5)), _, _, _, none⟩) (fun _ q => q) ?_)
  (refine Hp.tk (i := 3) (oi := ⟨some 32, Op.load 61 (Operand.tmp 31), _, _, _, none⟩) _ (fun _ q => q) (fun W hW => by (have F := Hp.Sh.facts hW); (have hd := Hp.Sh.data hW); (try simp only [Hp.Facts, Hp.CellsAt, Nat.reduceAdd, Hp.c1, Hp.c2] at F); skip; go_simp; (try with_reducible rfl)) ?_)
  (refine Hp.tks (i := 4) (oi := ⟨some 33, Op.indexAddr 62 (Operand.tmp 2) (Operand.const (Value.int IntKind.i64 6)), _, _, _, none⟩) (fun _ q => q) ?_)
  (refine Hp.tk (i := 5) (oi := ⟨some 34, Op.load 61 (Operand.tmp 33), _, _, _, none⟩) _ (fun _ q => q) (fun W hW => by (have F := Hp.Sh.facts hW); (have hd := Hp.Sh.data hW); (try simp only [Hp.Facts, Hp.CellsAt, Nat.reduceAdd, Hp.c1, Hp.c2] at F); skip; go_simp; (try with_reducible rfl)) ?_)
  (refine Hp.tks (i := 6) (oi := ⟨some 35, Op.indexAddr 62 (Operand.tmp 2) (Operand.const (Value.int IntKind.i64 7)), _, _, _, none⟩) (fun _ q => q) ?_)
  (refine Hp.tk (i := 7) (oi := ⟨some 36, Op.load 61 (Operand.tmp 35), _, _, _, none⟩) _ (fun _ q => q) (fun W hW => by (have F := Hp.Sh.facts hW); (have hd := Hp.Sh.data hW); (try simp only [Hp.Facts, Hp.CellsAt, Nat.reduceAdd, Hp.c1, Hp.c2] at F); skip; go_simp; (try with_reducible rfl)) ?_)
  (refine Hp.tks (i := 8) (oi := ⟨some 10, Op.assign (Operand.tmp 30), _, _, _, none⟩) (fun _ q => q) ?_)
  (refine Hp.tks (i := 9) (oi := ⟨some 11, Op.assign (Operand.tmp 32), _, _, _, none⟩) (fun _ q => q) ?_)
  (refine Hp.tks (i := 10) (oi := ⟨some 12, Op.assign (Operand.tmp 34), _, _, _, none⟩) (fun _ q => q) ?_)
  (refine Hp.tks (i := 11) (oi := ⟨some 13, Op.assign (Operand.tmp 36), _, _, _, none⟩) (fun _ q => q) ?_)
  refine Hp.soft_done (by kernel_rfl) (fun w1 sh => ?_) _; (try clear F); (try have F := Hp.Sh.facts sh); (try simp only [Hp.Facts, Hp.CellsAt, Nat.reduceAdd, Hp.c1, Hp.c2] at F)
  go_wp2_with fail
  go_step3
  go_wp2_with (first
      | ((with_reducible first | refine Hp.wpl_box sh ?_ ?_ | refine Hp.wpa sh ?_ ?_ | refine Hp.atl_store ?_ ?_); exact rfl; (try (refine Hp.wsB sh ?_)); clear sh; (try clear F); go_simp; (first | intro b w1 sh | intro w1 sh); have F := sh.fx)
      | fail)
  go_loopg [6, 7, 8, 9, 10, 11, 12, 13, 14] 64 (fun gk s6 s7 s8 s9 s10 s11 s12 s13 s14 wr => ∃ (k : Nat) (a b c d e f g h : DigP.Wd), s6 = .int .u32 (a.toNat : Int) ∧ s7 = .int .u32 (b.toNat : Int) ∧ s8 = .int .u32 (c.toNat : Int) ∧ s9 = .int .u32 (d.toNat : Int) ∧ s10 = .int .u32 (e.toNat : Int) ∧ s11 = .int .u32 (f.toNat : Int) ∧ s12 = .int .u32 (g.toNat : Int) ∧ s13 = .int .u32 (h.toNat : Int) ∧ s14 = .int .i64 k ∧ k ≤ 64 ∧ Hid (DigP.rounds ws v k = (a, b, c, d, e, f, g, h) ∧ gk = 64 - k) ∧ Hp.Sh w wr [(bw, DigP.wA ws, 104), (br, #[.int .u32 0, .int .u32 0, .int .u32 0, .int .u32 0, .int .u32 0, .int .u32 0, .int .u32 0, .int .u32 0], 62), (bv, #[.int .u32 (a0.toNat : Int), .int .u32 (b0.toNat : Int), .int .u32 (c0.toNat : Int), .int .u32 (d0.toNat : Int), .int .u32 (e0.toNat : Int), .int .u32 (f0.toNat : Int), .int .u32 (g0.toNat : Int), .int .u32 (h0.toNat : Int)], 62)] (fun W => Hp.RdV W (some ⟨0, 0, none⟩) (DigP.wds DigP.consts)))
  case atStart => exact ⟨0, a0, b0, c0, d0, e0, f0, g0, h0, rfl, rfl, rfl, rfl, rfl, rfl, rfl, rfl, rfl, by omega, ⟨HV.out.symm, rfl⟩, sh⟩
  case round =>
    clear sh F
    obtain ⟨k, a, b, c, d, e, f, g, h, rfl, rfl, rfl, rfl, rfl, rfl, rfl, rfl, rfl, hk, HX, sh⟩ := hrel
    by_cases hlt : k < 64
    · have hlI : (k : Int) < 64 := by omega
      have hne : ((k : Int) == 64) = false := by simp; omega
      have HT := Lib.hid (DigP.round_next' HX.out.1)
      have HC := Lib.hid (fun W (q : Hp.Sh w W [(bw, DigP.wA ws, 104), (br, #[.int .u32 0, .int .u32 0, .int .u32 0, .int .u32 0, .int .u32 0, .int .u32 0, .int .u32 0, .int .u32 0], 62), (bv, #[.int .u32 (a0.toNat : Int), .int .u32 (b0.toNat : Int), .int .u32 (c0.toNat : Int), .int .u32 (d0.toNat : Int), .int .u32 (e0.toNat : Int), .int .u32 (f0.toNat : Int), .int .u32 (g0.toNat : Int), .int .u32 (h0.toNat : Int)], 62)] (fun W => Hp.RdV W (some ⟨0, 0, none⟩) (DigP.wds DigP.consts))) => (by have := q.data.cell k (DigP.wds_get (l := DigP.consts) (by exact hlt)); rwa [Hp.add_head] at this : W.cell? ⟨0, k, none⟩ = some (.int .u32 ((DigP.consts.getD k 0).toNat : Int))))
      have HCW := Lib.hid (fun W (q : Hp.Sh w W [(bw, DigP.wA ws, 104), (br, #[.int .u32 0, .int .u32 0, .int .u32 0, .int .u32 0, .int .u32 0, .int .u32 0, .int .u32 0, .int .u32 0], 62), (bv, #[.int .u32 (a0.toNat : Int), .int .u32 (b0.toNat : Int), .int .u32 (c0.toNat : Int), .int .u32 (d0.toNat : Int), .int .u32 (e0.toNat : Int), .int .u32 (f0.toNat : Int), .int .u32 (g0.toNat : Int), .int .u32 (h0.toNat : Int)], 62)] (fun W => Hp.RdV W (some ⟨0, 0, none⟩) (DigP.wds DigP.consts))) => Hp.Sh.at q (i := 0) rfl (j := k) (DigP.wA_get (by rw [HWL.out]; exact hlt)))
      have TE := Lib.hid (fun W p h => dturns e [6, 11, 25] p 3 3 rfl (by omega) (by decide) W h)
      have TA := Lib.hid (fun W p h => dturns a [2, 13, 22] p 3 3 rfl (by omega) (by decide) W h)
      generalize DigP.consts.getD k 0 = kt at HC HT
      generalize ws.getD k 0 = wt at HCW HT
      generalize DigP.turns e [6, 11, 25] = te at TE HT
      generalize DigP.turns a [2, 13, 22] = ta at TA HT
      have S1 := DigP.badd h te
      have S1' := DigP.badd' h te
      generalize h + te = q1 at S1 S1' HT
      have B1 := DigP.band e f
      generalize e &&& f = m1 at B1 HT
      have N1 := DigP.bnot e
      have N2 := DigP.bnotk e
      have N3 := DigP.bneg e
      have N4 := DigP.bneg32 e
      generalize ~~~e = ne at N1 N2 N3 N4 HT
      have B2 := DigP.band ne g
      generalize ne &&& g = m2 at B2 HT
      have X3 := DigP.bxor m1 m2
      generalize m1 ^^^ m2 = c1 at X3 HT
      have S2 := DigP.badd q1 c1
      have S2' := DigP.badd' q1 c1
      generalize q1 + c1 = q2 at S2 S2' HT
      have S3 := DigP.badd q2 kt
      have S3' := DigP.badd' q2 kt
      generalize q2 + kt = q3 at S3 S3' HT
      have S4 := DigP.badd q3 wt
      have S4' := DigP.badd' q3 wt
      generalize q3 + wt = one at S4 S4' HT
      have B3 := DigP.band a b
      generalize a &&& b = n1 at B3 HT
      have B4 := DigP.band a c
      generalize a &&& c = n2 at B4 HT
      have X6 := DigP.bxor n1 n2
      generalize n1 ^^^ n2 = n3 at X6 HT
      have B5 := DigP.band b c
      generalize b &&& c = n4 at B5 HT
      have X7 := DigP.bxor n3 n4
      generalize n3 ^^^ n4 = n5 at X7 HT
      have S5 := DigP.badd ta n5
      have S5' := DigP.badd' ta n5
      generalize ta + n5 = two at S5 S5' HT
      have S6 := DigP.badd one two
      have S6' := DigP.badd' one two
      generalize one + two = na at S6 S6' HT
      have S7 := DigP.badd d one
      have S7' := DigP.badd' d one
      generalize d + one = nd at S7 S7' HT
      have F := sh.fx
      go_wp2_with (first
          | ((with_reducible first | refine Hp.wpl_box sh ?_ ?_ | refine Hp.wpa sh ?_ ?_ | refine Hp.atl_store ?_ ?_); exact rfl; (try (refine Hp.wsB sh ?_)); clear sh; (try clear F); go_simp; (first | intro b w1 sh | intro w1 sh); have F := sh.fx)
          | fail)
      refine Hp.region_soft (by kernel_rfl) sh (fun _ q => q) ?_; clear sh; (try clear F)
      (try simp only [Hp.p2, Hp.p3])
      (refine Hp.tks (i := 0) (oi := ⟨some 40, Op.move (Operand.tmp 13), _, _, _, none⟩) (fun _ q => q) ?_)
      (refine Hp.tks (i := 1) (oi := ⟨some 41, Op.move (Operand.tmp 10), _, _, _, none⟩) (fun _ q => q) ?_)
      (refine Hp.tks (i := 5) (oi := ⟨some 45, Op.move (Operand.tmp 10), _, _, _, none⟩) (fun _ q => q) ?_)
      (refine Hp.tks (i := 6) (oi := ⟨some 46, Op.move (Operand.tmp 11), _, _, _, none⟩) (fun _ q => q) ?_)
      (refine Hp.tks (i := 7) (oi := ⟨some 47, Op.binOp BinOp.and 61 (Operand.tmp 45) (Operand.tmp 46) 61, _, _, _, none⟩) (fun _ q => q) ?_)
      (refine Hp.tks (i := 8) (oi := ⟨some 48, Op.move (Operand.tmp 10), _, _, _, none⟩) (fun _ q => q) ?_)
      (refine Hp.tks (i := 9) (oi := ⟨some 49, Op.unOp UnOp.xor 61 (Operand.tmp 48), _, _, _, none⟩) (fun _ q => q) ?_)
      (refine Hp.tks (i := 10) (oi := ⟨some 50, Op.move (Operand.tmp 12), _, _, _, none⟩) (fun _ q => q) ?_)
      (refine Hp.tks (i := 11) (oi := ⟨some 51, Op.binOp BinOp.and 61 (Operand.tmp 49) (Operand.tmp 50) 61, _, _, _, none⟩) (fun _ q => q) ?_)
      (refine Hp.tks (i := 12) (oi := ⟨some 52, Op.binOp BinOp.xor 61 (Operand.tmp 47) (Operand.tmp 51) 61, _, _, _, none⟩) (fun _ q => q) ?_)
      (refine Hp.tks (i := 14) (oi := ⟨some 54, Op.move (Operand.tmp 14), _, _, _, none⟩) (fun _ q => q) ?_)
      (refine Hp.tks (i := 15) (oi := ⟨some 55, Op.indexAddr 104 (Operand.global 0) (Operand.tmp 54), _, _, _, none⟩) (fun _ q => q) ?_)
      (refine Hp.tk (i := 16) (oi := ⟨some 56, Op.load 61 (Operand.tmp 55), _, _, _, none⟩) _ (fun _ q => q) (fun W hW => by (have F := Hp.Sh.facts hW); (have hd := Hp.Sh.data hW); (try simp only [Hp.Facts, Hp.CellsAt, Nat.reduceAdd, Hp.c1, Hp.c2] at F); (have hcs := HC.out _ hW; have hcw := HCW.out _ hW); go_simp; (try with_reducible rfl)) ?_)
      (refine Hp.tks (i := 18) (oi := ⟨some 58, Op.move (Operand.tmp 14), _, _, _, none⟩) (fun _ q => q) ?_)
      (refine Hp.tks (i := 19) (oi := ⟨some 59, Op.indexAddr 104 (Operand.tmp 5) (Operand.tmp 58), _, _, _, none⟩) (fun _ q => q) ?_)
      (refine Hp.tk (i := 20) (oi := ⟨some 60, Op.load 61 (Operand.tmp 59), _, _, _, none⟩) _ (fun _ q => q) (fun W hW => by (have F := Hp.Sh.facts hW); (have hd := Hp.Sh.data hW); (try simp only [Hp.Facts, Hp.CellsAt, Nat.reduceAdd, Hp.c1, Hp.c2] at F); (have hcs := HC.out _ hW; have hcw := HCW.out _ hW); go_simp; (try with_reducible rfl)) ?_)
      refine Hp.soft_make (i := 2) (o := ⟨some 42, Op.buildSlice 43 3 #[(0, Operand.const (Value.int IntKind.i64 6)), (1, Operand.const (Value.int IntKind.i64 11)), (2, Operand.const (Value.int IntKind.i64 25))], _, _, _, none⟩) (by kernel_rfl) rfl (by rfl) (fun w1 sh K hK => ?_); (try clear F); (try have F := Hp.Sh.facts sh); (try simp only [Hp.Facts, Hp.CellsAt, Nat.reduceAdd, Hp.c1, Hp.c2] at F); ((refine Hp.wp_lit 3 (DigP.ns [6, 11, 25]) Tryd.i_i64 Tryd.underlying43 sh rfl rfl (by omega) rfl ?_); clear sh; (try clear F); intro bl w1 sh; replace sh := sh.freeze1 (vs := DigP.ns [6, 11, 25]) (fun i v h => by simpa using h)); refine hK _ _ _ _ _ _ (fun _ q => q) (fun _ q => q.imp fun W h => h.2) sh ?_; clear hK K; clear sh; (try clear F); (try simp only [Act.put, Hp.p1, Hp.p2, Hp.p3])
      (refine Hp.cl (i := 3) (oi := ⟨some 43, Op.call { callee := Callee.value (Operand.func 78), args := #[Operand.tmp 41, Operand.tmp 42], argTypes := #[61, 43] }, _, _, _, none⟩) _ _ _ (fun _ q => q) (fun W hW => by go_simp) (fun W hW => (TE.out W _ hW.data.1)) ?_)
      (refine Hp.tks (i := 4) (oi := ⟨some 44, Op.binOp BinOp.add 61 (Operand.tmp 40) (Operand.tmp 43) 61, _, _, _, none⟩) (fun _ q => q) ?_)
      (refine Hp.tks (i := 13) (oi := ⟨some 53, Op.binOp BinOp.add 61 (Operand.tmp 44) (Operand.tmp 52) 61, _, _, _, none⟩) (fun _ q => q) ?_)
      (refine Hp.tks (i := 17) (oi := ⟨some 57, Op.binOp BinOp.add 61 (Operand.tmp 53) (Operand.tmp 56) 61, _, _, _, none⟩) (fun _ q => q) ?_)
      (refine Hp.tks (i := 21) (oi := ⟨some 61, Op.binOp BinOp.add 61 (Operand.tmp 57) (Operand.tmp 60) 61, _, _, _, none⟩) (fun _ q => q) ?_)
      (refine Hp.tks (i := 22) (oi := ⟨some 15, Op.assign (Operand.tmp 61), _, _, _, none⟩) (fun _ q => q) ?_)
      refine Hp.soft_done (by kernel_rfl) (fun w1 sh => ?_) _; (try clear F); (try have F := Hp.Sh.facts sh); (try simp only [Hp.Facts, Hp.CellsAt, Nat.reduceAdd, Hp.c1, Hp.c2] at F)
      replace sh := Hp.Sh.imp sh fun _ h => h.2
      have F := sh.fx
      go_wp2_with (first
          | ((with_reducible refine Hp.atl_lit ?_ ?_); exact rfl; (refine Hp.wp_lit 3 (DigP.ns [2, 13, 22]) Tryd.i_i64 Tryd.underlying43 sh rfl rfl (by omega) rfl ?_); clear sh; (try clear F); intro bl w1 sh; replace sh := sh.freeze1 (vs := DigP.ns [2, 13, 22]) (fun i v h => by simpa using h); (have F := sh.fx); go_simp)
          | ((with_reducible first | refine Hp.wpl_box sh ?_ ?_ | refine Hp.wpa sh ?_ ?_ | refine Hp.atl_store ?_ ?_); exact rfl; (try (refine Hp.wsB sh ?_)); clear sh; (try clear F); go_simp; (first | intro b w1 sh | intro w1 sh); have F := sh.fx)
          | fail)
      go_fit (TA.out _ _ sh.data.1)
      rintro e w1 ⟨rfl, hb⟩
      replace sh := sh.call hb; clear hb; (try clear F); have F := sh.fx
      replace sh := Hp.Sh.imp sh fun _ h => h.2
      have F := sh.fx
      go_wp2_with (first
          | ((with_reducible first | refine Hp.wpl_box sh ?_ ?_ | refine Hp.wpa sh ?_ ?_ | refine Hp.atl_store ?_ ?_); exact rfl; (try (refine Hp.wsB sh ?_)); clear sh; (try clear F); go_simp; (first | intro b w1 sh | intro w1 sh); have F := sh.fx)
          | fail)
      go_roundg (64 - (k + 1))
      case rel => exact ⟨k + 1, na, a, b, c, nd, e, f, g, rfl, rfl, rfl, rfl, rfl, rfl, rfl, rfl, by go_num, by omega, ⟨HT.out, rfl⟩, sh⟩
      case measure => have := HX.out.2; omega
    · obtain rfl : k = 64 := by omega
      have HV2 := HV.out
      subst HV2
      have HP := Lib.hid (show DigP.plus (a0, b0, c0, d0, e0, f0, g0, h0) (DigP.rounds ws (a0, b0, c0, d0, e0, f0, g0, h0) 64) = DigP.mix 8 (a, b, c, d, e, f, g, h) (a0, b0, c0, d0, e0, f0, g0, h0) by rw [HX.out.1, DigP.mix_8, DigP.plus_comm])
      have F := sh.fx
      go_wp2_with (first
          | ((with_reducible first | refine Hp.wpl_box sh ?_ ?_ | refine Hp.wpa sh ?_ ?_ | refine Hp.atl_store ?_ ?_); exact rfl; (try (refine Hp.wsB sh ?_)); clear sh; (try clear F); go_simp; (first | intro b w1 sh | intro w1 sh); have F := sh.fx)
          | fail)
      go_loopw [100] (fun i wr => ∃ (k : Nat) (y0 y1 y2 y3 y4 y5 y6 y7 : DigP.Wd), i = .int .i64 k ∧ k ≤ 8 ∧ Hid (DigP.mix k (a, b, c, d, e, f, g, h) (a0, b0, c0, d0, e0, f0, g0, h0) = (y0, y1, y2, y3, y4, y5, y6, y7)) ∧ Hp.Sh w wr [(bw, DigP.wA ws, 104), (br, #[.int .u32 0, .int .u32 0, .int .u32 0, .int .u32 0, .int .u32 0, .int .u32 0, .int .u32 0, .int .u32 0], 62), (bv, #[.int .u32 (y0.toNat : Int), .int .u32 (y1.toNat : Int), .int .u32 (y2.toNat : Int), .int .u32 (y3.toNat : Int), .int .u32 (y4.toNat : Int), .int .u32 (y5.toNat : Int), .int .u32 (y6.toNat : Int), .int .u32 (y7.toNat : Int)], 62)] (fun W => Hp.RdV W (some ⟨0, 0, none⟩) (DigP.wds DigP.consts))) (fun i _ => 8 - (intOf i).toNat)
      case atStart => exact ⟨0, a0, b0, c0, d0, e0, f0, g0, h0, rfl, by omega, DigP.mix_0 _ _, sh⟩
      case round =>
        clear sh F HX HV
        obtain ⟨k, y0, y1, y2, y3, y4, y5, y6, y7, rfl, hk, HM, sh⟩ := hrel
        have F := sh.fx
        have hk9 : k = 0 ∨ k = 1 ∨ k = 2 ∨ k = 3 ∨ k = 4 ∨ k = 5 ∨ k = 6 ∨ k = 7 ∨ k = 8 := by omega
        rcases hk9 with rfl | rfl | rfl | rfl | rfl | rfl | rfl | rfl | rfl
        · have HT := Lib.hid (DigP.mix_s0 HM.out)
          have A := DigP.badd y0 a
          have A' := DigP.badd' y0 a
          generalize y0 + a = r at A A' HT
          have ix : ∀ W, (Instr.index 62 (.agg #[.int .u32 (a.toNat : Int), .int .u32 (b.toNat : Int), .int .u32 (c.toNat : Int), .int .u32 (d.toNat : Int), .int .u32 (e.toNat : Int), .int .u32 (f.toNat : Int), .int .u32 (g.toNat : Int), .int .u32 (h.toNat : Int)]) (.int .i64 (0 : Int))).run Tryd.prog W = .ok (.int .u32 (a.toNat : Int)) W := fun _ => by kernel_rfl
          have ix' : ∀ W, (Instr.index 62 (.agg #[.int .u32 (a.toNat : Int), .int .u32 (b.toNat : Int), .int .u32 (c.toNat : Int), .int .u32 (d.toNat : Int), .int .u32 (e.toNat : Int), .int .u32 (f.toNat : Int), .int .u32 (g.toNat : Int), .int .u32 (h.toNat : Int)]) (.int .i64 ((0 : Nat) : Int))).run Tryd.prog W = .ok (.int .u32 (a.toNat : Int)) W := fun _ => by kernel_rfl
          go_wp2_with (first
              | ((with_reducible first | refine Hp.wpl_box sh ?_ ?_ | refine Hp.wpa sh ?_ ?_ | refine Hp.atl_store ?_ ?_); exact rfl; (try (refine Hp.wsB sh ?_)); clear sh; (try clear F); go_simp; (first | intro b w1 sh | intro w1 sh); have F := sh.fx)
              | fail)
          go_roundw; (case rel => exact ⟨1, r, y1, y2, y3, y4, y5, y6, y7, by go_num, by omega, HT.out, sh⟩); (case measure => simp [intOf])
        · have HT := Lib.hid (DigP.mix_s1 HM.out)
          have A := DigP.badd y1 b
          have A' := DigP.badd' y1 b
          generalize y1 + b = r at A A' HT
          have ix : ∀ W, (Instr.index 62 (.agg #[.int .u32 (a.toNat : Int), .int .u32 (b.toNat : Int), .int .u32 (c.toNat : Int), .int .u32 (d.toNat : Int), .int .u32 (e.toNat : Int), .int .u32 (f.toNat : Int), .int .u32 (g.toNat : Int), .int .u32 (h.toNat : Int)]) (.int .i64 (1 : Int))).run Tryd.prog W = .ok (.int .u32 (b.toNat : Int)) W := fun _ => by kernel_rfl
          have ix' : ∀ W, (Instr.index 62 (.agg #[.int .u32 (a.toNat : Int), .int .u32 (b.toNat : Int), .int .u32 (c.toNat : Int), .int .u32 (d.toNat : Int), .int .u32 (e.toNat : Int), .int .u32 (f.toNat : Int), .int .u32 (g.toNat : Int), .int .u32 (h.toNat : Int)]) (.int .i64 ((1 : Nat) : Int))).run Tryd.prog W = .ok (.int .u32 (b.toNat : Int)) W := fun _ => by kernel_rfl
          go_wp2_with (first
              | ((with_reducible first | refine Hp.wpl_box sh ?_ ?_ | refine Hp.wpa sh ?_ ?_ | refine Hp.atl_store ?_ ?_); exact rfl; (try (refine Hp.wsB sh ?_)); clear sh; (try clear F); go_simp; (first | intro b w1 sh | intro w1 sh); have F := sh.fx)
              | fail)
          go_roundw; (case rel => exact ⟨2, y0, r, y2, y3, y4, y5, y6, y7, by go_num, by omega, HT.out, sh⟩); (case measure => simp [intOf])
        · have HT := Lib.hid (DigP.mix_s2 HM.out)
          have A := DigP.badd y2 c
          have A' := DigP.badd' y2 c
          generalize y2 + c = r at A A' HT
          have ix : ∀ W, (Instr.index 62 (.agg #[.int .u32 (a.toNat : Int), .int .u32 (b.toNat : Int), .int .u32 (c.toNat : Int), .int .u32 (d.toNat : Int), .int .u32 (e.toNat : Int), .int .u32 (f.toNat : Int), .int .u32 (g.toNat : Int), .int .u32 (h.toNat : Int)]) (.int .i64 (2 : Int))).run Tryd.prog W = .ok (.int .u32 (c.toNat : Int)) W := fun _ => by kernel_rfl
          have ix' : ∀ W, (Instr.index 62 (.agg #[.int .u32 (a.toNat : Int), .int .u32 (b.toNat : Int), .int .u32 (c.toNat : Int), .int .u32 (d.toNat : Int), .int .u32 (e.toNat : Int), .int .u32 (f.toNat : Int), .int .u32 (g.toNat : Int), .int .u32 (h.toNat : Int)]) (.int .i64 ((2 : Nat) : Int))).run Tryd.prog W = .ok (.int .u32 (c.toNat : Int)) W := fun _ => by kernel_rfl
          go_wp2_with (first
              | ((with_reducible first | refine Hp.wpl_box sh ?_ ?_ | refine Hp.wpa sh ?_ ?_ | refine Hp.atl_store ?_ ?_); exact rfl; (try (refine Hp.wsB sh ?_)); clear sh; (try clear F); go_simp; (first | intro b w1 sh | intro w1 sh); have F := sh.fx)
              | fail)
          go_roundw; (case rel => exact ⟨3, y0, y1, r, y3, y4, y5, y6, y7, by go_num, by omega, HT.out, sh⟩); (case measure => simp [intOf])
        · have HT := Lib.hid (DigP.mix_s3 HM.out)
          have A := DigP.badd y3 d
          have A' := DigP.badd' y3 d
          generalize y3 + d = r at A A' HT
          have ix : ∀ W, (Instr.index 62 (.agg #[.int .u32 (a.toNat : Int), .int .u32 (b.toNat : Int), .int .u32 (c.toNat : Int), .int .u32 (d.toNat : Int), .int .u32 (e.toNat : Int), .int .u32 (f.toNat : Int), .int .u32 (g.toNat : Int), .int .u32 (h.toNat : Int)]) (.int .i64 (3 : Int))).run Tryd.prog W = .ok (.int .u32 (d.toNat : Int)) W := fun _ => by kernel_rfl
          have ix' : ∀ W, (Instr.index 62 (.agg #[.int .u32 (a.toNat : Int), .int .u32 (b.toNat : Int), .int .u32 (c.toNat : Int), .int .u32 (d.toNat : Int), .int .u32 (e.toNat : Int), .int .u32 (f.toNat : Int), .int .u32 (g.toNat : Int), .int .u32 (h.toNat : Int)]) (.int .i64 ((3 : Nat) : Int))).run Tryd.prog W = .ok (.int .u32 (d.toNat : Int)) W := fun _ => by kernel_rfl
          go_wp2_with (first
              | ((with_reducible first | refine Hp.wpl_box sh ?_ ?_ | refine Hp.wpa sh ?_ ?_ | refine Hp.atl_store ?_ ?_); exact rfl; (try (refine Hp.wsB sh ?_)); clear sh; (try clear F); go_simp; (first | intro b w1 sh | intro w1 sh); have F := sh.fx)
              | fail)
          go_roundw; (case rel => exact ⟨4, y0, y1, y2, r, y4, y5, y6, y7, by go_num, by omega, HT.out, sh⟩); (case measure => simp [intOf])
        · have HT := Lib.hid (DigP.mix_s4 HM.out)
          have A := DigP.badd y4 e
          have A' := DigP.badd' y4 e
          generalize y4 + e = r at A A' HT
          have ix : ∀ W, (Instr.index 62 (.agg #[.int .u32 (a.toNat : Int), .int .u32 (b.toNat : Int), .int .u32 (c.toNat : Int), .int .u32 (d.toNat : Int), .int .u32 (e.toNat : Int), .int .u32 (f.toNat : Int), .int .u32 (g.toNat : Int), .int .u32 (h.toNat : Int)]) (.int .i64 (4 : Int))).run Tryd.prog W = .ok (.int .u32 (e.toNat : Int)) W := fun _ => by kernel_rfl
          have ix' : ∀ W, (Instr.index 62 (.agg #[.int .u32 (a.toNat : Int), .int .u32 (b.toNat : Int), .int .u32 (c.toNat : Int), .int .u32 (d.toNat : Int), .int .u32 (e.toNat : Int), .int .u32 (f.toNat : Int), .int .u32 (g.toNat : Int), .int .u32 (h.toNat : Int)]) (.int .i64 ((4 : Nat) : Int))).run Tryd.prog W = .ok (.int .u32 (e.toNat : Int)) W := fun _ => by kernel_rfl
          go_wp2_with (first
              | ((with_reducible first | refine Hp.wpl_box sh ?_ ?_ | refine Hp.wpa sh ?_ ?_ | refine Hp.atl_store ?_ ?_); exact rfl; (try (refine Hp.wsB sh ?_)); clear sh; (try clear F); go_simp; (first | intro b w1 sh | intro w1 sh); have F := sh.fx)
              | fail)
          go_roundw; (case rel => exact ⟨5, y0, y1, y2, y3, r, y5, y6, y7, by go_num, by omega, HT.out, sh⟩); (case measure => simp [intOf])
        · have HT := Lib.hid (DigP.mix_s5 HM.out)
          have A := DigP.badd y5 f
          have A' := DigP.badd' y5 f
          generalize y5 + f = r at A A' HT
          have ix : ∀ W, (Instr.index 62 (.agg #[.int .u32 (a.toNat : Int), .int .u32 (b.toNat : Int), .int .u32 (c.toNat : Int), .int .u32 (d.toNat : Int), .int .u32 (e.toNat : Int), .int .u32 (f.toNat : Int), .int .u32 (g.toNat : Int), .int .u32 (h.toNat : Int)]) (.int .i64 (5 : Int))).run Tryd.prog W = .ok (.int .u32 (f.toNat : Int)) W := fun _ => by kernel_rfl
          have ix' : ∀ W, (Instr.index 62 (.agg #[.int .u32 (a.toNat : Int), .int .u32 (b.toNat : Int), .int .u32 (c.toNat : Int), .int .u32 (d.toNat : Int), .int .u32 (e.toNat : Int), .int .u32 (f.toNat : Int), .int .u32 (g.toNat : Int), .int .u32 (h.toNat : Int)]) (.int .i64 ((5 : Nat) : Int))).run Tryd.prog W = .ok (.int .u32 (f.toNat : Int)) W := fun _ => by kernel_rfl
          go_wp2_with (first
              | ((with_reducible first | refine Hp.wpl_box sh ?_ ?_ | refine Hp.wpa sh ?_ ?_ | refine Hp.atl_store ?_ ?_); exact rfl; (try (refine Hp.wsB sh ?_)); clear sh; (try clear F); go_simp; (first | intro b w1 sh | intro w1 sh); have F := sh.fx)
              | fail)
          go_roundw; (case rel => exact ⟨6, y0, y1, y2, y3, y4, r, y6, y7, by go_num, by omega, HT.out, sh⟩); (case measure => simp [intOf])
        · have HT := Lib.hid (DigP.mix_s6 HM.out)
          have A := DigP.badd y6 g
          have A' := DigP.badd' y6 g
          generalize y6 + g = r at A A' HT
          have ix : ∀ W, (Instr.index 62 (.agg #[.int .u32 (a.toNat : Int), .int .u32 (b.toNat : Int), .int .u32 (c.toNat : Int), .int .u32 (d.toNat : Int), .int .u32 (e.toNat : Int), .int .u32 (f.toNat : Int), .int .u32 (g.toNat : Int), .int .u32 (h.toNat : Int)]) (.int .i64 (6 : Int))).run Tryd.prog W = .ok (.int .u32 (g.toNat : Int)) W := fun _ => by kernel_rfl
          have ix' : ∀ W, (Instr.index 62 (.agg #[.int .u32 (a.toNat : Int), .int .u32 (b.toNat : Int), .int .u32 (c.toNat : Int), .int .u32 (d.toNat : Int), .int .u32 (e.toNat : Int), .int .u32 (f.toNat : Int), .int .u32 (g.toNat : Int), .int .u32 (h.toNat : Int)]) (.int .i64 ((6 : Nat) : Int))).run Tryd.prog W = .ok (.int .u32 (g.toNat : Int)) W := fun _ => by kernel_rfl
          go_wp2_with (first
              | ((with_reducible first | refine Hp.wpl_box sh ?_ ?_ | refine Hp.wpa sh ?_ ?_ | refine Hp.atl_store ?_ ?_); exact rfl; (try (refine Hp.wsB sh ?_)); clear sh; (try clear F); go_simp; (first | intro b w1 sh | intro w1 sh); have F := sh.fx)
              | fail)
          go_roundw; (case rel => exact ⟨7, y0, y1, y2, y3, y4, y5, r, y7, by go_num, by omega, HT.out, sh⟩); (case measure => simp [intOf])
        · have HT := Lib.hid (DigP.mix_s7 HM.out)
          have A := DigP.badd y7 h
          have A' := DigP.badd' y7 h
          generalize y7 + h = r at A A' HT
          have ix : ∀ W, (Instr.index 62 (.agg #[.int .u32 (a.toNat : Int), .int .u32 (b.toNat : Int), .int .u32 (c.toNat : Int), .int .u32 (d.toNat : Int), .int .u32 (e.toNat : Int), .int .u32 (f.toNat : Int), .int .u32 (g.toNat : Int), .int .u32 (h.toNat : Int)]) (.int .i64 (7 : Int))).run Tryd.prog W = .ok (.int .u32 (h.toNat : Int)) W := fun _ => by kernel_rfl
          have ix' : ∀ W, (Instr.index 62 (.agg #[.int .u32 (a.toNat : Int), .int .u32 (b.toNat : Int), .int .u32 (c.toNat : Int), .int .u32 (d.toNat : Int), .int .u32 (e.toNat : Int), .int .u32 (f.toNat : Int), .int .u32 (g.toNat : Int), .int .u32 (h.toNat : Int)]) (.int .i64 ((7 : Nat) : Int))).run Tryd.prog W = .ok (.int .u32 (h.toNat : Int)) W := fun _ => by kernel_rfl
          go_wp2_with (first
              | ((with_reducible first | refine Hp.wpl_box sh ?_ ?_ | refine Hp.wpa sh ?_ ?_ | refine Hp.atl_store ?_ ?_); exact rfl; (try (refine Hp.wsB sh ?_)); clear sh; (try clear F); go_simp; (first | intro b w1 sh | intro w1 sh); have F := sh.fx)
              | fail)
          go_roundw; (case rel => exact ⟨8, y0, y1, y2, y3, y4, y5, y6, r, by go_num, by omega, HT.out, sh⟩); (case measure => simp [intOf])
        · go_wp2_with (first
              | ((with_reducible first | refine Hp.wpl_box sh ?_ ?_ | refine Hp.wpa sh ?_ ?_ | refine Hp.atl_store ?_ ?_); exact rfl; (try (refine Hp.wsB sh ?_)); clear sh; (try clear F); go_simp; (first | intro b w1 sh | intro w1 sh); have F := sh.fx)
              | fail)
          (try rw [Exit.noGoto_ret])
          exact bodyPost_ret (Hp.res_c rfl rfl (sh.load 1 rfl (by kernel_rfl) (by kernel_rfl))) rfl ⟨congrArg Ending.returned (show _ = Value.agg _ by rw [HP.out, HM.out]; rfl), sh.below⟩

end Go.Proofs.YtfcffglgkblidaaDoor
