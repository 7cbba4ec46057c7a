
/-
  The walk of the reference's block.
-/
import Derived.Test.YtfcffglgkblidaaDoorDig2
namespace Go.Proofs.YtfcffglgkblidaaDoor
open Go.RowKit
set_option linter.unusedVariables false
set_option linter.unusedSimpArgs false

namespace DigP
def v8 (v : V8) : List Value := [.int .u32 (v.1.toNat : Int), .int .u32 (v.2.1.toNat : Int), .int .u32 (v.2.2.1.toNat : Int), .int .u32 (v.2.2.2.1.toNat : Int), .int .u32 (v.2.2.2.2.1.toNat : Int), .int .u32 (v.2.2.2.2.2.1.toNat : Int), .int .u32 (v.2.2.2.2.2.2.1.toNat : Int), .int .u32 (v.2.2.2.2.2.2.2.toNat : Int)]
theorem words_length (l : List UInt8) : (words l).length = 64 := wordsN_length l 48
theorem round_next {w : List Wd} {v : V8} {t : Nat} {a b c d e f g h : Wd} (hx : rounds w v t = (a, b, c, d, e, f, g, h)) :
    rounds w v (t + 1) = (h + (turn e 6 ^^^ turn e 11 ^^^ turn e 25) + ((e &&& f) ^^^ (~~~e &&& g)) + consts.getD t 0 + w.getD t 0 + ((turn a 2 ^^^ turn a 13 ^^^ turn a 22) + ((a &&& b) ^^^ (a &&& c) ^^^ (b &&& c))), a, b, c, d + (h + (turn e 6 ^^^ turn e 11 ^^^ turn e 25) + ((e &&& f) ^^^ (~~~e &&& g)) + consts.getD t 0 + w.getD t 0), e, f, g) := by rw [rounds, hx]; rfl
theorem bneg32 (x : Wd) : IntKind.u32.wrap (4294967295 - (x.toNat : Int)) = ((~~~x).toNat : Int) := by rw [bneg]; exact in32 _
def mix (k : Nat) (v x : V8) : V8 := (if 0 < k then v.1 + x.1 else x.1, if 1 < k then v.2.1 + x.2.1 else x.2.1, if 2 < k then v.2.2.1 + x.2.2.1 else x.2.2.1, if 3 < k then v.2.2.2.1 + x.2.2.2.1 else x.2.2.2.1, if 4 < k then v.2.2.2.2.1 + x.2.2.2.2.1 else x.2.2.2.2.1, if 5 < k then v.2.2.2.2.2.1 + x.2.2.2.2.2.1 else x.2.2.2.2.2.1, if 6 < k then v.2.2.2.2.2.2.1 + x.2.2.2.2.2.2.1 else x.2.2.2.2.2.2.1, if 7 < k then v.2.2.2.2.2.2.2 + x.2.2.2.2.2.2.2 else x.2.2.2.2.2.2.2)
theorem mix_0 (v x : V8) : mix 0 v x = x := by simp [mix]
theorem mix_8 (v x : V8) : mix 8 v x = plus v x := by obtain ⟨a, b, c, d, e, f, g, h⟩ := v; obtain ⟨a', b', c', d', e', f', g', h'⟩ := x; simp [mix, plus]
theorem mix_s0 {a0 b0 c0 d0 e0 f0 g0 h0 : Wd} {x : V8} {y0 y1 y2 y3 y4 y5 y6 y7 : Wd} (q : mix 0 (a0, b0, c0, d0, e0, f0, g0, h0) x = (y0, y1, y2, y3, y4, y5, y6, y7)) : mix 1 (a0, b0, c0, d0, e0, f0, g0, h0) x = (y0 + a0, y1, y2, y3, y4, y5, y6, y7) := by
  obtain ⟨p0, p1, p2, p3, p4, p5, p6, p7⟩ := x
  simp only [mix, Prod.mk.injEq] at q ⊢
  simp at q ⊢
  obtain ⟨e0, e1, e2, e3, e4, e5, e6, e7⟩ := q
  subst e0 e1 e2 e3 e4 e5 e6 e7
  simp [BitVec.add_comm]
theorem mix_s1 {a0 b0 c0 d0 e0 f0 g0 h0 : Wd} {x : V8} {y0 y1 y2 y3 y4 y5 y6 y7 : Wd} (q : mix 1 (a0, b0, c0, d0, e0, f0, g0, h0) x = (y0, y1, y2, y3, y4, y5, y6, y7)) : mix 2 (a0, b0, c0, d0, e0, f0, g0, h0) x = (y0, y1 + b0, y2, y3, y4, y5, y6, y7) := by
  obtain ⟨p0, p1, p2, p3, p4, p5, p6, p7⟩ := x
  simp only [mix, Prod.mk.injEq] at q ⊢
  simp at q ⊢
  obtain ⟨e0, e1, e2, e3, e4, e5, e6, e7⟩ := q
  subst e0 e1 e2 e3 e4 e5 e6 e7
  simp [BitVec.add_comm]
theorem mix_s2 {a0 b0 c0 d0 e0 f0 g0 h0 : Wd} {x : V8} {y0 y1 y2 y3 y4 y5 y6 y7 : Wd} (q : mix 2 (a0, b0, c0, d0, e0, f0, g0, h0) x = (y0, y1, y2, y3, y4, y5, y6, y7)) : mix 3 (a0, b0, c0, d0, e0, f0, g0, h0) x = (y0, y1, y2 + c0, y3, y4, y5, y6, y7) := by
  obtain ⟨p0, p1, p2, p3, p4, p5, p6, p7⟩ := x
  simp only [mix, Prod.mk.injEq] at q ⊢
  simp at q ⊢
  obtain ⟨e0, e1, e2, e3, e4, e5, e6, e7⟩ := q
  subst e0 e1 e2 e3 e4 e5 e6 e7
  simp [BitVec.add_comm]
theorem mix_s3 {a0 b0 c0 d0 e0 f0 g0 h0 : Wd} {x : V8} {y0 y1 y2 y3 y4 y5 y6 y7 : Wd} (q : mix 3 (a0, b0, c0, d0, e0, f0, g0, h0) x = (y0, y1, y2, y3, y4, y5, y6, y7)) : mix 4 (a0, b0, c0, d0, e0, f0, g0, h0) x = (y0, y1, y2, y3 + d0, y4, y5, y6, y7) := by
  obtain ⟨p0, p1, p2, p3, p4, p5, p6, p7⟩ := x
  simp only [mix, Prod.mk.injEq] at q ⊢
  simp at q ⊢
  obtain ⟨e0, e1, e2, e3, e4, e5, e6, e7⟩ := q
  subst e0 e1 e2 e3 e4 e5 e6 e7
  simp [BitVec.add_comm]
theorem mix_s4 {a0 b0 c0 d0 e0 f0 g0 h0 : Wd} {x : V8} {y0 y1 y2 y3 y4 y5 y6 y7 : Wd} (q : mix 4 (a0, b0, c0, d0, e0, f0, g0, h0) x = (y0, y1, y2, y3, y4, y5, y6, y7)) : mix 5 (a0, b0, c0, d0, e0, f0, g0, h0) x = (y0, y1, y2, y3, y4 + e0, y5, y6, y7) := by
  obtain ⟨p0, p1, p2, p3, p4, p5, p6, p7⟩ := x
  simp only [mix, Prod.mk.injEq] at q ⊢
  simp at q ⊢
  obtain ⟨e0, e1, e2, e3, e4, e5, e6, e7⟩ := q
  subst e0 e1 e2 e3 e4 e5 e6 e7
  simp [BitVec.add_comm]
theorem mix_s5 {a0 b0 c0 d0 e0 f0 g0 h0 : Wd} {x : V8} {y0 y1 y2 y3 y4 y5 y6 y7 : Wd} (q : mix 5 (a0, b0, c0, d0, e0, f0, g0, h0) x = (y0, y1, y2, y3, y4, y5, y6, y7)) : mix 6 (a0, b0, c0, d0, e0, f0, g0, h0) x = (y0, y1, y2, y3, y4, y5 + f0, y6, y7) := by
  obtain ⟨p0, p1, p2, p3, p4, p5, p6, p7⟩ := x
  simp only [mix, Prod.mk.injEq] at q ⊢
  simp at q ⊢
  obtain ⟨e0, e1, e2, e3, e4, e5, e6, e7⟩ := q
  subst e0 e1 e2 e3 e4 e5 e6 e7
  simp [BitVec.add_comm]
theorem mix_s6 {a0 b0 c0 d0 e0 f0 g0 h0 : Wd} {x : V8} {y0 y1 y2 y3 y4 y5 y6 y7 : Wd} (q : mix 6 (a0, b0, c0, d0, e0, f0, g0, h0) x = (y0, y1, y2, y3, y4, y5, y6, y7)) : mix 7 (a0, b0, c0, d0, e0, f0, g0, h0) x = (y0, y1, y2, y3, y4, y5, y6 + g0, y7) := by
  obtain ⟨p0, p1, p2, p3, p4, p5, p6, p7⟩ := x
  simp only [mix, Prod.mk.injEq] at q ⊢
  simp at q ⊢
  obtain ⟨e0, e1, e2, e3, e4, e5, e6, e7⟩ := q
  subst e0 e1 e2 e3 e4 e5 e6 e7
  simp [BitVec.add_comm]
theorem mix_s7 {a0 b0 c0 d0 e0 f0 g0 h0 : Wd} {x : V8} {y0 y1 y2 y3 y4 y5 y6 y7 : Wd} (q : mix 7 (a0, b0, c0, d0, e0, f0, g0, h0) x = (y0, y1, y2, y3, y4, y5, y6, y7)) : mix 8 (a0, b0, c0, d0, e0, f0, g0, h0) x = (y0, y1, y2, y3, y4, y5, y6, y7 + h0) := by
  obtain ⟨p0, p1, p2, p3, p4, p5, p6, p7⟩ := x
  simp only [mix, Prod.mk.injEq] at q ⊢
  simp at q ⊢
  obtain ⟨e0, e1, e2, e3, e4, e5, e6, e7⟩ := q
  subst e0 e1 e2 e3 e4 e5 e6 e7
  simp [BitVec.add_comm]
end DigP

theorem Tryd.z_a8 (W : World) : (zeroValue 62).run Tryd.prog W = .ok (.agg #[.int .u32 0, .int .u32 0, .int .u32 0, .int .u32 0, .int .u32 0, .int .u32 0, .int .u32 0, .int .u32 0]) W := by kernel_rfl
set_option maxHeartbeats 8000000 in
set_option maxRecDepth 100000 in
theorem drblock (a0 b0 c0 d0 e0 f0 g0 h0 : DigP.Wd) (l : List UInt8) (hl : l.length = 64) (w : World) : Calls Tryd.prog 76 #[.agg #[.int .u32 (a0.toNat : Int), .int .u32 (b0.toNat : Int), .int .u32 (c0.toNat : Int), .int .u32 (d0.toNat : Int), .int .u32 (e0.toNat : Int), .int .u32 (f0.toNat : Int), .int .u32 (g0.toNat : Int), .int .u32 (h0.toNat : Int)], .string (bstr l)] w fun e w' => e = .returned (.agg (DigP.v8 (DigP.block (a0, b0, c0, d0, e0, f0, g0, h0) l)).toArray) ∧ Below w.heap.size w w' := by
  have sh : Hp.Sh w w [] (fun _ => True) := Hp.Sh.start (fun _ _ => trivial)
  have K1 := Lib.hid (fun W => drwords l hl W)
  have HWL := Lib.hid (DigP.words_length l)
  unfold DigP.block
  unfold DigP.WordsP at K1
  generalize DigP.words l = ws at K1 HWL ⊢
  generalize hv : ((a0, b0, c0, d0, e0, f0, g0, h0) : DigP.V8) = v
  have HV := Lib.hid hv
  clear hv
  go_enter Tryd.func76, Tryd.ntmps76
  have F := sh.fx
  have tok_bv : True := trivial
  have tok_br : True := trivial
  go_wp2_with (first
      | ((with_reducible first | refine Hp.wpl_box sh ?_ ?_ | refine Hp.wpa sh ?_ ?_ | refine Hp.atl_store ?_ ?_); exact rfl; (try (refine Hp.wsB sh ?_)); clear sh; (try clear F); go_simp; (first | (have tok := tok_bv; clear tok tok_bv; intro bv w1 sh) | (have tok := tok_br; clear tok tok_br; intro br w1 sh) | intro b w1 sh | intro w1 sh); have F := sh.fx)
      | fail)
  go_fit (K1.out _)
  rintro e w1 ⟨gw, cp, rfl, hge, hr, hb⟩
  replace sh := Hp.gain sh hb (fun p hp => by cases hp; exact hge) hr
  replace sh := sh.imp (fun W h => h.1)
  clear hge hr hb
  have F := sh.fx
  have tok_bx : True := trivial
  go_wp2_with (first
      | ((with_reducible first | refine Hp.wpl_box sh ?_ ?_ | refine Hp.wpa sh ?_ ?_ | refine Hp.atl_store ?_ ?_); exact rfl; (try (refine Hp.wsB sh ?_)); clear sh; (try clear F); go_simp; (first | (have tok := tok_bx; clear tok tok_bx; intro bx w1 sh) | intro b w1 sh | intro w1 sh); have F := sh.fx)
      | fail)
  go_loopw [7] (fun i wr => ∃ (t : Nat) (a b c d e f g h : DigP.Wd), i = .int .i64 t ∧ t ≤ 64 ∧ Hid (DigP.rounds ws v t = (a, b, c, d, e, f, g, h)) ∧ Hp.Sh w wr [(bx, #[.int .u32 (a.toNat : Int), .int .u32 (b.toNat : Int), .int .u32 (c.toNat : Int), .int .u32 (d.toNat : Int), .int .u32 (e.toNat : Int), .int .u32 (f.toNat : Int), .int .u32 (g.toNat : Int), .int .u32 (h.toNat : Int)], 62), (br, #[.int .u32 0, .int .u32 0, .int .u32 0, .int .u32 0, .int .u32 0, .int .u32 0, .int .u32 0, .int .u32 0], 62), (bv, #[.int .u32 (a0.toNat : Int), .int .u32 (b0.toNat : Int), .int .u32 (c0.toNat : Int), .int .u32 (d0.toNat : Int), .int .u32 (e0.toNat : Int), .int .u32 (f0.toNat : Int), .int .u32 (g0.toNat : Int), .int .u32 (h0.toNat : Int)], 62)] (fun W => Hp.RdV W (some ⟨gw, 0, none⟩) (DigP.wds ws))) (fun i _ => 64 - (intOf i).toNat)
  case atStart => exact ⟨0, a0, b0, c0, d0, e0, f0, g0, h0, rfl, by omega, HV.out.symm, sh⟩
  case round =>
    clear sh F
    obtain ⟨t, a, b, c, d, e, f, g, h, rfl, ht, HX, sh⟩ := hrel
    have F := sh.fx
    by_cases hlt : t < 64
    · have hlI : (t : Int) < 64 := by omega
      have HT := Lib.hid (DigP.round_next HX.out)
      have HC := Lib.hid (fun W (q : Hp.RdV W (some ⟨gw, 0, none⟩) (DigP.wds ws)) => (by have := q.cell t (DigP.wds_get (by rw [HWL.out]; exact hlt)); rwa [Hp.add_head] at this : W.cell? ⟨gw, t, none⟩ = some (.int .u32 ((ws.getD t 0).toNat : Int))))
      have T6 := Lib.hid (fun W => dturn e 6 (by decide) (by decide) W)
      have T11 := Lib.hid (fun W => dturn e 11 (by decide) (by decide) W)
      have T25 := Lib.hid (fun W => dturn e 25 (by decide) (by decide) W)
      have T2 := Lib.hid (fun W => dturn a 2 (by decide) (by decide) W)
      have T13 := Lib.hid (fun W => dturn a 13 (by decide) (by decide) W)
      have T22 := Lib.hid (fun W => dturn a 22 (by decide) (by decide) W)
      have TK := Lib.hid (fun W => dconst t hlt W)
      generalize DigP.consts.getD t 0 = kt at TK HT
      generalize ws.getD t 0 = wt at HC HT
      generalize DigP.turn e 6 = t6 at T6 HT
      generalize DigP.turn e 11 = t11 at T11 HT
      generalize DigP.turn e 25 = t25 at T25 HT
      generalize DigP.turn a 2 = t2 at T2 HT
      generalize DigP.turn a 13 = t13 at T13 HT
      generalize DigP.turn a 22 = t22 at T22 HT
      have X1 := DigP.bxor t6 t11
      generalize t6 ^^^ t11 = r1 at X1 HT
      have X2 := DigP.bxor r1 t25
      generalize r1 ^^^ t25 = r2 at X2 HT
      have S1 := DigP.badd h r2
      have S1' := DigP.badd' h r2
      generalize h + r2 = s1 at S1 S1' HT
      have B1 := DigP.band e f
      generalize e &&& f = m1 at B1 HT
      have N1 := DigP.bneg32 e
      have N2 := DigP.bneg e
      generalize ~~~e = ne at N1 N2 HT
      have N3 := DigP.in32 ne
      have B2 := DigP.band ne g
      generalize ne &&& g = m2 at B2 HT
      have X3 := DigP.bxor m1 m2
      generalize m1 ^^^ m2 = c1 at X3 HT
      have S2 := DigP.badd s1 c1
      have S2' := DigP.badd' s1 c1
      generalize s1 + c1 = s2 at S2 S2' HT
      have S3 := DigP.badd s2 kt
      have S3' := DigP.badd' s2 kt
      generalize s2 + kt = s3 at S3 S3' HT
      have S4 := DigP.badd s3 wt
      have S4' := DigP.badd' s3 wt
      generalize s3 + wt = one at S4 S4' HT
      have X4 := DigP.bxor t2 t13
      generalize t2 ^^^ t13 = q1 at X4 HT
      have X5 := DigP.bxor q1 t22
      generalize q1 ^^^ t22 = q2 at X5 HT
      have B3 := DigP.band a b
      generalize a &&& b = n1 at B3 HT
      have B4 := DigP.band a c
      generalize a &&& c = n2 at B4 HT
      have X6 := DigP.bxor n1 n2
      generalize n1 ^^^ n2 = n3 at X6 HT
      have B5 := DigP.band b c
      generalize b &&& c = n4 at B5 HT
      have X7 := DigP.bxor n3 n4
      generalize n3 ^^^ n4 = n5 at X7 HT
      have S5 := DigP.badd q2 n5
      have S5' := DigP.badd' q2 n5
      generalize q2 + n5 = two at S5 S5' HT
      have S6 := DigP.badd one two
      have S6' := DigP.badd' one two
      generalize one + two = na at S6 S6' HT
      have S7 := DigP.badd d one
      have S7' := DigP.badd' d one
      generalize d + one = nd at S7 S7' HT
      go_wp2_with (first
          | ((with_reducible first | refine Hp.wpl_box sh ?_ ?_ | refine Hp.wpa sh ?_ ?_ | refine Hp.atl_store ?_ ?_); exact rfl; (try (refine Hp.wsB sh ?_)); clear sh; (try clear F); go_simp; (first | intro b w1 sh | intro w1 sh); have F := sh.fx)
          | fail)
      refine wp_region_quiet (C := Hp.Cls _ _ _) (by kernel_rfl) (by kernel_rfl) sh.drew ?_; clear sh; (try clear F)
      (try simp only [])
      (first | go_big_quiet_skip | (go_big_quiet_want; go_big_quiet_op; first | go_big_quiet_on | (refine ⟨_, fun _ _ => rfl, ?_⟩; go_big_quiet_on)))
      (first | go_big_quiet_skip | (go_big_quiet_want; refine Hp.quiet_val _ (fun W hW => by have F := Hp.Sh.facts hW; have hd := Hp.Sh.data hW; (try simp only [Hp.Facts, Hp.CellsAt, Nat.reduceAdd, Hp.c1, Hp.c2] at F); have hcs := HC.out _ hd; go_simp; rfl) ?_; (try simp only [Act.put, Hp.p1, Hp.p2, Hp.p3]); go_big_quiet_on) | (go_big_quiet_want; refine Hp.quiet_val _ (fun W hW => by have F := Hp.Sh.facts hW; have hd := Hp.Sh.data hW; (try simp only [Hp.Facts, Hp.CellsAt, Nat.reduceAdd, Hp.c1, Hp.c2] at F); have hcs := HC.out _ hd; go_simp) ?_; (try simp only [Act.put, Hp.p1, Hp.p2, Hp.p3]); go_big_quiet_on))
      (first | go_big_quiet_skip | (go_big_quiet_want; go_big_quiet_op; first | go_big_quiet_on | (refine ⟨_, fun _ _ => rfl, ?_⟩; go_big_quiet_on)))
      (go_big_quiet_want; refine Hp.quiet_call _ _ _ (fun W hW => by go_simp) (fun W hW => T6.out W) ?_; (try simp only [Act.put, Hp.p1, Hp.p2, Hp.p3]); go_big_quiet_on)
      (first | go_big_quiet_skip | (go_big_quiet_want; go_big_quiet_op; first | go_big_quiet_on | (refine ⟨_, fun _ _ => rfl, ?_⟩; go_big_quiet_on)))
      (go_big_quiet_want; refine Hp.quiet_call _ _ _ (fun W hW => by go_simp) (fun W hW => T11.out W) ?_; (try simp only [Act.put, Hp.p1, Hp.p2, Hp.p3]); go_big_quiet_on)
      iterate 2 (first | go_big_quiet_skip | (go_big_quiet_want; go_big_quiet_op; first | go_big_quiet_on | (refine ⟨_, fun _ _ => rfl, ?_⟩; go_big_quiet_on)))
      (go_big_quiet_want; refine Hp.quiet_call _ _ _ (fun W hW => by go_simp) (fun W hW => T25.out W) ?_; (try simp only [Act.put, Hp.p1, Hp.p2, Hp.p3]); go_big_quiet_on)
      iterate 4 (first | go_big_quiet_skip | (go_big_quiet_want; go_big_quiet_op; first | go_big_quiet_on | (refine ⟨_, fun _ _ => rfl, ?_⟩; go_big_quiet_on)))
      (first | go_big_quiet_skip | (go_big_quiet_want; refine Hp.quiet_val _ (fun W hW => by have F := Hp.Sh.facts hW; have hd := Hp.Sh.data hW; (try simp only [Hp.Facts, Hp.CellsAt, Nat.reduceAdd, Hp.c1, Hp.c2] at F); have hcs := HC.out _ hd; go_simp; rfl) ?_; (try simp only [Act.put, Hp.p1, Hp.p2, Hp.p3]); go_big_quiet_on) | (go_big_quiet_want; refine Hp.quiet_val _ (fun W hW => by have F := Hp.Sh.facts hW; have hd := Hp.Sh.data hW; (try simp only [Hp.Facts, Hp.CellsAt, Nat.reduceAdd, Hp.c1, Hp.c2] at F); have hcs := HC.out _ hd; go_simp) ?_; (try simp only [Act.put, Hp.p1, Hp.p2, Hp.p3]); go_big_quiet_on))
      iterate 4 (first | go_big_quiet_skip | (go_big_quiet_want; go_big_quiet_op; first | go_big_quiet_on | (refine ⟨_, fun _ _ => rfl, ?_⟩; go_big_quiet_on)))
      (first | go_big_quiet_skip | (go_big_quiet_want; refine Hp.quiet_val _ (fun W hW => by have F := Hp.Sh.facts hW; have hd := Hp.Sh.data hW; (try simp only [Hp.Facts, Hp.CellsAt, Nat.reduceAdd, Hp.c1, Hp.c2] at F); have hcs := HC.out _ hd; go_simp; rfl) ?_; (try simp only [Act.put, Hp.p1, Hp.p2, Hp.p3]); go_big_quiet_on) | (go_big_quiet_want; refine Hp.quiet_val _ (fun W hW => by have F := Hp.Sh.facts hW; have hd := Hp.Sh.data hW; (try simp only [Hp.Facts, Hp.CellsAt, Nat.reduceAdd, Hp.c1, Hp.c2] at F); have hcs := HC.out _ hd; go_simp) ?_; (try simp only [Act.put, Hp.p1, Hp.p2, Hp.p3]); go_big_quiet_on))
      iterate 4 (first | go_big_quiet_skip | (go_big_quiet_want; go_big_quiet_op; first | go_big_quiet_on | (refine ⟨_, fun _ _ => rfl, ?_⟩; go_big_quiet_on)))
      (go_big_quiet_want; refine Hp.quiet_call _ _ _ (fun W hW => by go_simp) (fun W hW => TK.out W) ?_; (try simp only [Act.put, Hp.p1, Hp.p2, Hp.p3]); go_big_quiet_on)
      iterate 4 (first | go_big_quiet_skip | (go_big_quiet_want; go_big_quiet_op; first | go_big_quiet_on | (refine ⟨_, fun _ _ => rfl, ?_⟩; go_big_quiet_on)))
      (first | go_big_quiet_skip | (go_big_quiet_want; refine Hp.quiet_val _ (fun W hW => by have F := Hp.Sh.facts hW; have hd := Hp.Sh.data hW; (try simp only [Hp.Facts, Hp.CellsAt, Nat.reduceAdd, Hp.c1, Hp.c2] at F); have hcs := HC.out _ hd; go_simp; rfl) ?_; (try simp only [Act.put, Hp.p1, Hp.p2, Hp.p3]); go_big_quiet_on) | (go_big_quiet_want; refine Hp.quiet_val _ (fun W hW => by have F := Hp.Sh.facts hW; have hd := Hp.Sh.data hW; (try simp only [Hp.Facts, Hp.CellsAt, Nat.reduceAdd, Hp.c1, Hp.c2] at F); have hcs := HC.out _ hd; go_simp) ?_; (try simp only [Act.put, Hp.p1, Hp.p2, Hp.p3]); go_big_quiet_on))
      iterate 2 (first | go_big_quiet_skip | (go_big_quiet_want; go_big_quiet_op; first | go_big_quiet_on | (refine ⟨_, fun _ _ => rfl, ?_⟩; go_big_quiet_on)))
      refine wpQuiet_nil ?_; intro w1 sh; have F := sh.fx
      go_wp2_with (first
          | ((with_reducible first | refine Hp.wpl_box sh ?_ ?_ | refine Hp.wpa sh ?_ ?_ | refine Hp.atl_store ?_ ?_); exact rfl; (try (refine Hp.wsB sh ?_)); clear sh; (try clear F); go_simp; (first | intro b w1 sh | intro w1 sh); have F := sh.fx)
          | fail)
      refine wp_region_quiet (C := Hp.Cls _ _ _) (by kernel_rfl) (by kernel_rfl) sh.drew ?_; clear sh; (try clear F)
      (try simp only [])
      (first | go_big_quiet_skip | (go_big_quiet_want; go_big_quiet_op; first | go_big_quiet_on | (refine ⟨_, fun _ _ => rfl, ?_⟩; go_big_quiet_on)))
      (go_big_quiet_want; refine Hp.quiet_call _ _ _ (fun W hW => by go_simp) (fun W hW => T2.out W) ?_; (try simp only [Act.put, Hp.p1, Hp.p2, Hp.p3]); go_big_quiet_on)
      (first | go_big_quiet_skip | (go_big_quiet_want; go_big_quiet_op; first | go_big_quiet_on | (refine ⟨_, fun _ _ => rfl, ?_⟩; go_big_quiet_on)))
      (go_big_quiet_want; refine Hp.quiet_call _ _ _ (fun W hW => by go_simp) (fun W hW => T13.out W) ?_; (try simp only [Act.put, Hp.p1, Hp.p2, Hp.p3]); go_big_quiet_on)
      iterate 2 (first | go_big_quiet_skip | (go_big_quiet_want; go_big_quiet_op; first | go_big_quiet_on | (refine ⟨_, fun _ _ => rfl, ?_⟩; go_big_quiet_on)))
      (go_big_quiet_want; refine Hp.quiet_call _ _ _ (fun W hW => by go_simp) (fun W hW => T22.out W) ?_; (try simp only [Act.put, Hp.p1, Hp.p2, Hp.p3]); go_big_quiet_on)
      iterate 3 (first | go_big_quiet_skip | (go_big_quiet_want; go_big_quiet_op; first | go_big_quiet_on | (refine ⟨_, fun _ _ => rfl, ?_⟩; go_big_quiet_on)))
      (first | go_big_quiet_skip | (go_big_quiet_want; refine Hp.quiet_val _ (fun W hW => by have F := Hp.Sh.facts hW; have hd := Hp.Sh.data hW; (try simp only [Hp.Facts, Hp.CellsAt, Nat.reduceAdd, Hp.c1, Hp.c2] at F); skip; go_simp; rfl) ?_; (try simp only [Act.put, Hp.p1, Hp.p2, Hp.p3]); go_big_quiet_on) | (go_big_quiet_want; refine Hp.quiet_val _ (fun W hW => by have F := Hp.Sh.facts hW; have hd := Hp.Sh.data hW; (try simp only [Hp.Facts, Hp.CellsAt, Nat.reduceAdd, Hp.c1, Hp.c2] at F); skip; go_simp) ?_; (try simp only [Act.put, Hp.p1, Hp.p2, Hp.p3]); go_big_quiet_on))
      iterate 3 (first | go_big_quiet_skip | (go_big_quiet_want; go_big_quiet_op; first | go_big_quiet_on | (refine ⟨_, fun _ _ => rfl, ?_⟩; go_big_quiet_on)))
      (first | go_big_quiet_skip | (go_big_quiet_want; refine Hp.quiet_val _ (fun W hW => by have F := Hp.Sh.facts hW; have hd := Hp.Sh.data hW; (try simp only [Hp.Facts, Hp.CellsAt, Nat.reduceAdd, Hp.c1, Hp.c2] at F); skip; go_simp; rfl) ?_; (try simp only [Act.put, Hp.p1, Hp.p2, Hp.p3]); go_big_quiet_on) | (go_big_quiet_want; refine Hp.quiet_val _ (fun W hW => by have F := Hp.Sh.facts hW; have hd := Hp.Sh.data hW; (try simp only [Hp.Facts, Hp.CellsAt, Nat.reduceAdd, Hp.c1, Hp.c2] at F); skip; go_simp) ?_; (try simp only [Act.put, Hp.p1, Hp.p2, Hp.p3]); go_big_quiet_on))
      iterate 3 (first | go_big_quiet_skip | (go_big_quiet_want; go_big_quiet_op; first | go_big_quiet_on | (refine ⟨_, fun _ _ => rfl, ?_⟩; go_big_quiet_on)))
      (first | go_big_quiet_skip | (go_big_quiet_want; refine Hp.quiet_val _ (fun W hW => by have F := Hp.Sh.facts hW; have hd := Hp.Sh.data hW; (try simp only [Hp.Facts, Hp.CellsAt, Nat.reduceAdd, Hp.c1, Hp.c2] at F); skip; go_simp; rfl) ?_; (try simp only [Act.put, Hp.p1, Hp.p2, Hp.p3]); go_big_quiet_on) | (go_big_quiet_want; refine Hp.quiet_val _ (fun W hW => by have F := Hp.Sh.facts hW; have hd := Hp.Sh.data hW; (try simp only [Hp.Facts, Hp.CellsAt, Nat.reduceAdd, Hp.c1, Hp.c2] at F); skip; go_simp) ?_; (try simp only [Act.put, Hp.p1, Hp.p2, Hp.p3]); go_big_quiet_on))
      (first | go_big_quiet_skip | (go_big_quiet_want; go_big_quiet_op; first | go_big_quiet_on | (refine ⟨_, fun _ _ => rfl, ?_⟩; go_big_quiet_on)))
      (first | go_big_quiet_skip | (go_big_quiet_want; refine Hp.quiet_val _ (fun W hW => by have F := Hp.Sh.facts hW; have hd := Hp.Sh.data hW; (try simp only [Hp.Facts, Hp.CellsAt, Nat.reduceAdd, Hp.c1, Hp.c2] at F); skip; go_simp; rfl) ?_; (try simp only [Act.put, Hp.p1, Hp.p2, Hp.p3]); go_big_quiet_on) | (go_big_quiet_want; refine Hp.quiet_val _ (fun W hW => by have F := Hp.Sh.facts hW; have hd := Hp.Sh.data hW; (try simp only [Hp.Facts, Hp.CellsAt, Nat.reduceAdd, Hp.c1, Hp.c2] at F); skip; go_simp) ?_; (try simp only [Act.put, Hp.p1, Hp.p2, Hp.p3]); go_big_quiet_on))
      iterate 4 (first | go_big_quiet_skip | (go_big_quiet_want; go_big_quiet_op; first | go_big_quiet_on | (refine ⟨_, fun _ _ => rfl, ?_⟩; go_big_quiet_on)))
      refine wpQuiet_nil ?_; intro w1 sh; have F := sh.fx
      go_wp2_with (first
          | ((with_reducible first | refine Hp.wpl_box sh ?_ ?_ | refine Hp.wpa sh ?_ ?_ | refine Hp.atl_store ?_ ?_); exact rfl; (try (refine Hp.wsB sh ?_)); clear sh; (try clear F); go_simp; (first | intro b w1 sh | intro w1 sh); have F := sh.fx)
          | fail)
      go_roundw
      case rel => exact ⟨t + 1, na, a, b, c, nd, e, f, g, by go_num, by omega, HT.out, sh⟩
      case measure => simp [intOf]; omega
    · obtain rfl : t = 64 := by omega
      have HV2 := HV.out
      subst HV2
      have HP := Lib.hid (show DigP.plus (a0, b0, c0, d0, e0, f0, g0, h0) (DigP.rounds ws (a0, b0, c0, d0, e0, f0, g0, h0) 64) = DigP.mix 8 (a0, b0, c0, d0, e0, f0, g0, h0) (a, b, c, d, e, f, g, h) by rw [HX.out, DigP.mix_8])
      go_wp2_with (first
          | ((with_reducible first | refine Hp.wpl_box sh ?_ ?_ | refine Hp.wpa sh ?_ ?_ | refine Hp.atl_store ?_ ?_); exact rfl; (try (refine Hp.wsB sh ?_)); clear sh; (try clear F); go_simp; (first | intro b w1 sh | intro w1 sh); have F := sh.fx)
          | fail)
      go_loopw [12] (fun i wr => ∃ (k : Nat) (y0 y1 y2 y3 y4 y5 y6 y7 : DigP.Wd), i = .int .i64 k ∧ k ≤ 8 ∧ Hid (DigP.mix k (a0, b0, c0, d0, e0, f0, g0, h0) (a, b, c, d, e, f, g, h) = (y0, y1, y2, y3, y4, y5, y6, y7)) ∧ Hp.Sh w wr [(bx, #[.int .u32 (y0.toNat : Int), .int .u32 (y1.toNat : Int), .int .u32 (y2.toNat : Int), .int .u32 (y3.toNat : Int), .int .u32 (y4.toNat : Int), .int .u32 (y5.toNat : Int), .int .u32 (y6.toNat : Int), .int .u32 (y7.toNat : Int)], 62), (br, #[.int .u32 0, .int .u32 0, .int .u32 0, .int .u32 0, .int .u32 0, .int .u32 0, .int .u32 0, .int .u32 0], 62), (bv, #[.int .u32 (a0.toNat : Int), .int .u32 (b0.toNat : Int), .int .u32 (c0.toNat : Int), .int .u32 (d0.toNat : Int), .int .u32 (e0.toNat : Int), .int .u32 (f0.toNat : Int), .int .u32 (g0.toNat : Int), .int .u32 (h0.toNat : Int)], 62)] (fun W => Hp.RdV W (some ⟨gw, 0, none⟩) (DigP.wds ws))) (fun i _ => 8 - (intOf i).toNat)
      case atStart => exact ⟨0, a, b, c, d, e, f, g, h, rfl, by omega, DigP.mix_0 _ _, sh⟩
      case round =>
        clear sh F HX HV
        obtain ⟨k, y0, y1, y2, y3, y4, y5, y6, y7, rfl, hk, HM, sh⟩ := hrel
        have F := sh.fx
        have hk9 : k = 0 ∨ k = 1 ∨ k = 2 ∨ k = 3 ∨ k = 4 ∨ k = 5 ∨ k = 6 ∨ k = 7 ∨ k = 8 := by omega
        rcases hk9 with rfl | rfl | rfl | rfl | rfl | rfl | rfl | rfl | rfl
        · have HT := Lib.hid (DigP.mix_s0 HM.out)
          have A := DigP.badd y0 a0
          have A' := DigP.badd' y0 a0
          generalize y0 + a0 = r at A A' HT
          go_wp2_with (first
              | ((with_reducible first | refine Hp.wpl_box sh ?_ ?_ | refine Hp.wpa sh ?_ ?_ | refine Hp.atl_store ?_ ?_); exact rfl; (try (refine Hp.wsB sh ?_)); clear sh; (try clear F); go_simp; (first | intro b w1 sh | intro w1 sh); have F := sh.fx)
              | fail)
          refine Hp.region_soft (by kernel_rfl) sh (fun _ q => Hp.Sh.drop1 q) ?_; clear sh; (try clear F)
          (try simp only [Hp.p2, Hp.p3])
          (refine Hp.tks (i := 0) (oi := ⟨some 100, Op.move (Operand.tmp 12), _, _, _, none⟩) (fun _ q => Hp.Sh.drop1 q) ?_)
          (refine Hp.tks (i := 1) (oi := ⟨some 101, Op.move (Operand.tmp 12), _, _, _, none⟩) (fun _ q => Hp.Sh.drop1 q) ?_)
          (refine Hp.tks (i := 2) (oi := ⟨some 102, Op.indexAddr 62 (Operand.tmp 6) (Operand.tmp 101), _, _, _, none⟩) (fun _ q => Hp.Sh.drop1 q) ?_)
          (refine Hp.tks (i := 4) (oi := ⟨some 104, Op.move (Operand.tmp 12), _, _, _, none⟩) (fun _ q => Hp.Sh.drop1 q) ?_)
          (refine Hp.tks (i := 5) (oi := ⟨some 105, Op.indexAddr 62 (Operand.tmp 2) (Operand.tmp 104), _, _, _, none⟩) (fun _ q => Hp.Sh.drop1 q) ?_)
          (refine Hp.tk (i := 6) (oi := ⟨some 106, Op.load 61 (Operand.tmp 105), _, _, _, none⟩) _ (fun _ q => Hp.Sh.drop1 q) (fun W hW => by (have F := Hp.Sh.facts hW); (have hd := Hp.Sh.data hW); (try simp only [Hp.Facts, Hp.CellsAt, Nat.reduceAdd, Hp.c1, Hp.c2] at F); skip; go_simp; (try with_reducible rfl)) ?_)
          refine Hp.soft_make (i := 3) (o := ⟨some 103, Op.load 61 (Operand.tmp 102), _, _, _, none⟩) (by kernel_rfl) rfl (by rfl) (fun w1 sh K hK => ?_); (try clear F); (try have F := Hp.Sh.facts sh); (try simp only [Hp.Facts, Hp.CellsAt, Nat.reduceAdd, Hp.c1, Hp.c2] at F); (go_simp); refine hK _ _ _ _ _ _ (fun _ q => Hp.Sh.drop1 q) (fun _ q => q) sh ?_; clear hK K; clear sh; (try clear F); (try simp only [Act.put, Hp.p1, Hp.p2, Hp.p3])
          (refine Hp.tks (i := 7) (oi := ⟨some 107, Op.binOp BinOp.add 61 (Operand.tmp 103) (Operand.tmp 106) 61, _, _, _, none⟩) (fun _ q => Hp.Sh.drop1 q) ?_)
          (refine Hp.tks (i := 8) (oi := ⟨some 108, Op.indexAddr 62 (Operand.tmp 6) (Operand.tmp 100), _, _, _, none⟩) (fun _ q => Hp.Sh.drop1 q) ?_)
          refine Hp.soft_make (i := 9) (o := ⟨none, Op.store 61 (Operand.tmp 108) (Operand.tmp 107), _, _, _, none⟩) (by kernel_rfl) rfl (by rfl) (fun w1 sh K hK => ?_); (try clear F); (try have F := Hp.Sh.facts sh); (try simp only [Hp.Facts, Hp.CellsAt, Nat.reduceAdd, Hp.c1, Hp.c2] at F); (refine Hp.wp_store 0 sh rfl rfl rfl rfl (by kernel_rfl) (Nat.le_of_ble_eq_true rfl) rfl ?_; clear sh; go_simp; intro w1 sh); refine hK _ _ _ _ _ _ (fun _ q => Hp.Sh.drop1 q) (fun _ q => q) sh ?_; clear hK K; clear sh; (try clear F); (try simp only [Act.put, Hp.p1, Hp.p2, Hp.p3])
          refine Hp.soft_done (by kernel_rfl) (fun w1 sh => ?_) _; (try clear F); (try have F := Hp.Sh.facts sh); (try simp only [Hp.Facts, Hp.CellsAt, Nat.reduceAdd, Hp.c1, Hp.c2] at F)
          go_wp2; go_roundw; (case rel => exact ⟨1, r, y1, y2, y3, y4, y5, y6, y7, by go_num, by omega, HT.out, sh⟩); (case measure => simp [intOf])
        · have HT := Lib.hid (DigP.mix_s1 HM.out)
          have A := DigP.badd y1 b0
          have A' := DigP.badd' y1 b0
          generalize y1 + b0 = r at A A' HT
          go_wp2_with (first
              | ((with_reducible first | refine Hp.wpl_box sh ?_ ?_ | refine Hp.wpa sh ?_ ?_ | refine Hp.atl_store ?_ ?_); exact rfl; (try (refine Hp.wsB sh ?_)); clear sh; (try clear F); go_simp; (first | intro b w1 sh | intro w1 sh); have F := sh.fx)
              | fail)
          refine Hp.region_soft (by kernel_rfl) sh (fun _ q => Hp.Sh.drop1 q) ?_; clear sh; (try clear F)
          (try simp only [Hp.p2, Hp.p3])
          (refine Hp.tks (i := 0) (oi := ⟨some 100, Op.move (Operand.tmp 12), _, _, _, none⟩) (fun _ q => Hp.Sh.drop1 q) ?_)
          (refine Hp.tks (i := 1) (oi := ⟨some 101, Op.move (Operand.tmp 12), _, _, _, none⟩) (fun _ q => Hp.Sh.drop1 q) ?_)
          (refine Hp.tks (i := 2) (oi := ⟨some 102, Op.indexAddr 62 (Operand.tmp 6) (Operand.tmp 101), _, _, _, none⟩) (fun _ q => Hp.Sh.drop1 q) ?_)
          (refine Hp.tks (i := 4) (oi := ⟨some 104, Op.move (Operand.tmp 12), _, _, _, none⟩) (fun _ q => Hp.Sh.drop1 q) ?_)
          (refine Hp.tks (i := 5) (oi := ⟨some 105, Op.indexAddr 62 (Operand.tmp 2) (Operand.tmp 104), _, _, _, none⟩) (fun _ q => Hp.Sh.drop1 q) ?_)
          (refine Hp.tk (i := 6) (oi := ⟨some 106, Op.load 61 (Operand.tmp 105), _, _, _, none⟩) _ (fun _ q => Hp.Sh.drop1 q) (fun W hW => by (have F := Hp.Sh.facts hW); (have hd := Hp.Sh.data hW); (try simp only [Hp.Facts, Hp.CellsAt, Nat.reduceAdd, Hp.c1, Hp.c2] at F); skip; go_simp; (try with_reducible rfl)) ?_)
          refine Hp.soft_make (i := 3) (o := ⟨some 103, Op.load 61 (Operand.tmp 102), _, _, _, none⟩) (by kernel_rfl) rfl (by rfl) (fun w1 sh K hK => ?_); (try clear F); (try have F := Hp.Sh.facts sh); (try simp only [Hp.Facts, Hp.CellsAt, Nat.reduceAdd, Hp.c1, Hp.c2] at F); (go_simp); refine hK _ _ _ _ _ _ (fun _ q => Hp.Sh.drop1 q) (fun _ q => q) sh ?_; clear hK K; clear sh; (try clear F); (try simp only [Act.put, Hp.p1, Hp.p2, Hp.p3])
          (refine Hp.tks (i := 7) (oi := ⟨some 107, Op.binOp BinOp.add 61 (Operand.tmp 103) (Operand.tmp 106) 61, _, _, _, none⟩) (fun _ q => Hp.Sh.drop1 q) ?_)
          (refine Hp.tks (i := 8) (oi := ⟨some 108, Op.indexAddr 62 (Operand.tmp 6) (Operand.tmp 100), _, _, _, none⟩) (fun _ q => Hp.Sh.drop1 q) ?_)
          refine Hp.soft_make (i := 9) (o := ⟨none, Op.store 61 (Operand.tmp 108) (Operand.tmp 107), _, _, _, none⟩) (by kernel_rfl) rfl (by rfl) (fun w1 sh K hK => ?_); (try clear F); (try have F := Hp.Sh.facts sh); (try simp only [Hp.Facts, Hp.CellsAt, Nat.reduceAdd, Hp.c1, Hp.c2] at F); (refine Hp.wp_store 0 sh rfl rfl rfl rfl (by kernel_rfl) (Nat.le_of_ble_eq_true rfl) rfl ?_; clear sh; go_simp; intro w1 sh); refine hK _ _ _ _ _ _ (fun _ q => Hp.Sh.drop1 q) (fun _ q => q) sh ?_; clear hK K; clear sh; (try clear F); (try simp only [Act.put, Hp.p1, Hp.p2, Hp.p3])
          refine Hp.soft_done (by kernel_rfl) (fun w1 sh => ?_) _; (try clear F); (try have F := Hp.Sh.facts sh); (try simp only [Hp.Facts, Hp.CellsAt, Nat.reduceAdd, Hp.c1, Hp.c2] at F)
          go_wp2; go_roundw; (case rel => exact ⟨2, y0, r, y2, y3, y4, y5, y6, y7, by go_num, by omega, HT.out, sh⟩); (case measure => simp [intOf])
        · have HT := Lib.hid (DigP.mix_s2 HM.out)
          have A := DigP.badd y2 c0
          have A' := DigP.badd' y2 c0
          generalize y2 + c0 = r at A A' HT
          go_wp2_with (first
              | ((with_reducible first | refine Hp.wpl_box sh ?_ ?_ | refine Hp.wpa sh ?_ ?_ | refine Hp.atl_store ?_ ?_); exact rfl; (try (refine Hp.wsB sh ?_)); clear sh; (try clear F); go_simp; (first | intro b w1 sh | intro w1 sh); have F := sh.fx)
              | fail)
          refine Hp.region_soft (by kernel_rfl) sh (fun _ q => Hp.Sh.drop1 q) ?_; clear sh; (try clear F)
          (try simp only [Hp.p2, Hp.p3])
          (refine Hp.tks (i := 0) (oi := ⟨some 100, Op.move (Operand.tmp 12), _, _, _, none⟩) (fun _ q => Hp.Sh.drop1 q) ?_)
          (refine Hp.tks (i := 1) (oi := ⟨some 101, Op.move (Operand.tmp 12), _, _, _, none⟩) (fun _ q => Hp.Sh.drop1 q) ?_)
          (refine Hp.tks (i := 2) (oi := ⟨some 102, Op.indexAddr 62 (Operand.tmp 6) (Operand.tmp 101), _, _, _, none⟩) (fun _ q => Hp.Sh.drop1 q) ?_)
          (refine Hp.tks (i := 4) (oi := ⟨some 104, Op.move (Operand.tmp 12), _, _, _, none⟩) (fun _ q => Hp.Sh.drop1 q) ?_)
          (refine Hp.tks (i := 5) (oi := ⟨some 105, Op.indexAddr 62 (Operand.tmp 2) (Operand.tmp 104), _, _, _, none⟩) (fun _ q => Hp.Sh.drop1 q) ?_)
          (refine Hp.tk (i := 6) (oi := ⟨some 106, Op.load 61 (Operand.tmp 105), _, _, _, none⟩) _ (fun _ q => Hp.Sh.drop1 q) (fun W hW => by (have F := Hp.Sh.facts hW); (have hd := Hp.Sh.data hW); (try simp only [Hp.Facts, Hp.CellsAt, Nat.reduceAdd, Hp.c1, Hp.c2] at F); skip; go_simp; (try with_reducible rfl)) ?_)
          refine Hp.soft_make (i := 3) (o := ⟨some 103, Op.load 61 (Operand.tmp 102), _, _, _, none⟩) (by kernel_rfl) rfl (by rfl) (fun w1 sh K hK => ?_); (try clear F); (try have F := Hp.Sh.facts sh); (try simp only [Hp.Facts, Hp.CellsAt, Nat.reduceAdd, Hp.c1, Hp.c2] at F); (go_simp); refine hK _ _ _ _ _ _ (fun _ q => Hp.Sh.drop1 q) (fun _ q => q) sh ?_; clear hK K; clear sh; (try clear F); (try simp only [Act.put, Hp.p1, Hp.p2, Hp.p3])
          (refine Hp.tks (i := 7) (oi := ⟨some 107, Op.binOp BinOp.add 61 (Operand.tmp 103) (Operand.tmp 106) 61, _, _, _, none⟩) (fun _ q => Hp.Sh.drop1 q) ?_)
          (refine Hp.tks (i := 8) (oi := ⟨some 108, Op.indexAddr 62 (Operand.tmp 6) (Operand.tmp 100), _, _, _, none⟩) (fun _ q => Hp.Sh.drop1 q) ?_)
          refine Hp.soft_make (i := 9) (o := ⟨none, Op.store 61 (Operand.tmp 108) (Operand.tmp 107), _, _, _, none⟩) (by kernel_rfl) rfl (by rfl) (fun w1 sh K hK => ?_); (try clear F); (try have F := Hp.Sh.facts sh); (try simp only [Hp.Facts, Hp.CellsAt, Nat.reduceAdd, Hp.c1, Hp.c2] at F); (refine Hp.wp_store 0 sh rfl rfl rfl rfl (by kernel_rfl) (Nat.le_of_ble_eq_true rfl) rfl ?_; clear sh; go_simp; intro w1 sh); refine hK _ _ _ _ _ _ (fun _ q => Hp.Sh.drop1 q) (fun _ q => q) sh ?_; clear hK K; clear sh; (try clear F); (try simp only [Act.put, Hp.p1, Hp.p2, Hp.p3])
          refine Hp.soft_done (by kernel_rfl) (fun w1 sh => ?_) _; (try clear F); (try have F := Hp.Sh.facts sh); (try simp only [Hp.Facts, Hp.CellsAt, Nat.reduceAdd, Hp.c1, Hp.c2] at F)
          go_wp2; go_roundw; (case rel => exact ⟨3, y0, y1, r, y3, y4, y5, y6, y7, by go_num, by omega, HT.out, sh⟩); (case measure => simp [intOf])
        · have HT := Lib.hid (DigP.mix_s3 HM.out)
          have A := DigP.badd y3 d0
          have A' := DigP.badd' y3 d0
          generalize y3 + d0 = r at A A' HT
          go_wp2_with (first
              | ((with_reducible first | refine Hp.wpl_box sh ?_ ?_ | refine Hp.wpa sh ?_ ?_ | refine Hp.atl_store ?_ ?_); exact rfl; (try (refine Hp.wsB sh ?_)); clear sh; (try clear F); go_simp; (first | intro b w1 sh | intro w1 sh); have F := sh.fx)
              | fail)
          refine Hp.region_soft (by kernel_rfl) sh (fun _ q => Hp.Sh.drop1 q) ?_; clear sh; (try clear F)
          (try simp only [Hp.p2, Hp.p3])
          (refine Hp.tks (i := 0) (oi := ⟨some 100, Op.move (Operand.tmp 12), _, _, _, none⟩) (fun _ q => Hp.Sh.drop1 q) ?_)
          (refine Hp.tks (i := 1) (oi := ⟨some 101, Op.move (Operand.tmp 12), _, _, _, none⟩) (fun _ q => Hp.Sh.drop1 q) ?_)
          (refine Hp.tks (i := 2) (oi := ⟨some 102, Op.indexAddr 62 (Operand.tmp 6) (Operand.tmp 101), _, _, _, none⟩) (fun _ q => Hp.Sh.drop1 q) ?_)
          (refine Hp.tks (i := 4) (oi := ⟨some 104, Op.move (Operand.tmp 12), _, _, _, none⟩) (fun _ q => Hp.Sh.drop1 q) ?_)
          (refine Hp.tks (i := 5) (oi := ⟨some 105, Op.indexAddr 62 (Operand.tmp 2) (Operand.tmp 104), _, _, _, none⟩) (fun _ q => Hp.Sh.drop1 q) ?_)
          (refine Hp.tk (i := 6) (oi := ⟨some 106, Op.load 61 (Operand.tmp 105), _, _, _, none⟩) _ (fun _ q => Hp.Sh.drop1 q) (fun W hW => by (have F := Hp.Sh.facts hW); (have hd := Hp.Sh.data hW); (try simp only [Hp.Facts, Hp.CellsAt, Nat.reduceAdd, Hp.c1, Hp.c2] at F); skip; go_simp; (try with_reducible rfl)) ?_)
          refine Hp.soft_make (i := 3) (o := ⟨some 103, Op.load 61 (Operand.tmp 102), _, _, _, none⟩) (by kernel_rfl) rfl (by rfl) (fun w1 sh K hK => ?_); (try clear F); (try have F := Hp.Sh.facts sh); (try simp only [Hp.Facts, Hp.CellsAt, Nat.reduceAdd, Hp.c1, Hp.c2] at F); (go_simp); refine hK _ _ _ _ _ _ (fun _ q => Hp.Sh.drop1 q) (fun _ q => q) sh ?_; clear hK K; clear sh; (try clear F); (try simp only [Act.put, Hp.p1, Hp.p2, Hp.p3])
          (refine Hp.tks (i := 7) (oi := ⟨some 107, Op.binOp BinOp.add 61 (Operand.tmp 103) (Operand.tmp 106) 61, _, _, _, none⟩) (fun _ q => Hp.Sh.drop1 q) ?_)
          (refine Hp.tks (i := 8) (oi := ⟨some 108, Op.indexAddr 62 (Operand.tmp 6) (Operand.tmp 100), _, _, _, none⟩) (fun _ q => Hp.Sh.drop1 q) ?_)
          refine Hp.soft_make (i := 9) (o := ⟨none, Op.store 61 (Operand.tmp 108) (Operand.tmp 107), _, _, _, none⟩) (by kernel_rfl) rfl (by rfl) (fun w1 sh K hK => ?_); (try clear F); (try have F := Hp.Sh.facts sh); (try simp only [Hp.Facts, Hp.CellsAt, Nat.reduceAdd, Hp.c1, Hp.c2] at F); (refine Hp.wp_store 0 sh rfl rfl rfl rfl (by kernel_rfl) (Nat.le_of_ble_eq_true rfl) rfl ?_; clear sh; go_simp; intro w1 sh); refine hK _ _ _ _ _ _ (fun _ q => Hp.Sh.drop1 q) (fun _ q => q) sh ?_; clear hK K; clear sh; (try clear F); (try simp only [Act.put, Hp.p1, Hp.p2, Hp.p3])
          refine Hp.soft_done (by kernel_rfl) (fun w1 sh => ?_) _; (try clear F); (try have F := Hp.Sh.facts sh); (try simp only [Hp.Facts, Hp.CellsAt, Nat.reduceAdd, Hp.c1, Hp.c2] at F)
          go_wp2; go_roundw; (case rel => exact ⟨4, y0, y1, y2, r, y4, y5, y6, y7, by go_num, by omega, HT.out, sh⟩); (case measure => simp [intOf])
        · have HT := Lib.hid (DigP.mix_s4 HM.out)
          have A := DigP.badd y4 e0
          have A' := DigP.badd' y4 e0
          generalize y4 + e0 = r at A A' HT
          go_wp2_with (first
              | ((with_reducible first | refine Hp.wpl_box sh ?_ ?_ | refine Hp.wpa sh ?_ ?_ | refine Hp.atl_store ?_ ?_); exact rfl; (try (refine Hp.wsB sh ?_)); clear sh; (try clear F); go_simp; (first | intro b w1 sh | intro w1 sh); have F := sh.fx)
              | fail)
          refine Hp.region_soft (by kernel_rfl) sh (fun _ q => Hp.Sh.drop1 q) ?_; clear sh; (try clear F)
          (try simp only [Hp.p2, Hp.p3])
          (refine Hp.tks (i := 0) (oi := ⟨some 100, Op.move (Operand.tmp 12), _, _, _, none⟩) (fun _ q => Hp.Sh.drop1 q) ?_)
          (refine Hp.tks (i := 1) (oi := ⟨some 101, Op.move (Operand.tmp 12), _, _, _, none⟩) (fun _ q => Hp.Sh.drop1 q) ?_)
          (refine Hp.tks (i := 2) (oi := ⟨some 102, Op.indexAddr 62 (Operand.tmp 6) (Operand.tmp 101), _, _, _, none⟩) (fun _ q => Hp.Sh.drop1 q) ?_)
          (refine Hp.tks (i := 4) (oi := ⟨some 104, Op.move (Operand.tmp 12), _, _, _, none⟩) (fun _ q => Hp.Sh.drop1 q) ?_)
          (refine Hp.tks (i := 5) (oi := ⟨some 105, Op.indexAddr 62 (Operand.tmp 2) (Operand.tmp 104), _, _, _, none⟩) (fun _ q => Hp.Sh.drop1 q) ?_)
          (refine Hp.tk (i := 6) (oi := ⟨some 106, Op.load 61 (Operand.tmp 105), _, _, _, none⟩) _ (fun _ q => Hp.Sh.drop1 q) (fun W hW => by (have F := Hp.Sh.facts hW); (have hd := Hp.Sh.data hW); (try simp only [Hp.Facts, Hp.CellsAt, Nat.reduceAdd, Hp.c1, Hp.c2] at F); skip; go_simp; (try with_reducible rfl)) ?_)
          refine Hp.soft_make (i := 3) (o := ⟨some 103, Op.load 61 (Operand.tmp 102), _, _, _, none⟩) (by kernel_rfl) rfl (by rfl) (fun w1 sh K hK => ?_); (try clear F); (try have F := Hp.Sh.facts sh); (try simp only [Hp.Facts, Hp.CellsAt, Nat.reduceAdd, Hp.c1, Hp.c2] at F); (go_simp); refine hK _ _ _ _ _ _ (fun _ q => Hp.Sh.drop1 q) (fun _ q => q) sh ?_; clear hK K; clear sh; (try clear F); (try simp only [Act.put, Hp.p1, Hp.p2, Hp.p3])
          (refine Hp.tks (i := 7) (oi := ⟨some 107, Op.binOp BinOp.add 61 (Operand.tmp 103) (Operand.tmp 106) 61, _, _, _, none⟩) (fun _ q => Hp.Sh.drop1 q) ?_)
          (refine Hp.tks (i := 8) (oi := ⟨some 108, Op.indexAddr 62 (Operand.tmp 6) (Operand.tmp 100), _, _, _, none⟩) (fun _ q => Hp.Sh.drop1 q) ?_)
          refine Hp.soft_make (i := 9) (o := ⟨none, Op.store 61 (Operand.tmp 108) (Operand.tmp 107), _, _, _, none⟩) (by kernel_rfl) rfl (by rfl) (fun w1 sh K hK => ?_); (try clear F); (try have F := Hp.Sh.facts sh); (try simp only [Hp.Facts, Hp.CellsAt, Nat.reduceAdd, Hp.c1, Hp.c2] at F); (refine Hp.wp_store 0 sh rfl rfl rfl rfl (by kernel_rfl) (Nat.le_of_ble_eq_true rfl) rfl ?_; clear sh; go_simp; intro w1 sh); refine hK _ _ _ _ _ _ (fun _ q => Hp.Sh.drop1 q) (fun _ q => q) sh ?_; clear hK K; clear sh; (try clear F); (try simp only [Act.put, Hp.p1, Hp.p2, Hp.p3])
          refine Hp.soft_done (by kernel_rfl) (fun w1 sh => ?_) _; (try clear F); (try have F := Hp.Sh.facts sh); (try simp only [Hp.Facts, Hp.CellsAt, Nat.reduceAdd, Hp.c1, Hp.c2] at F)
          go_wp2; go_roundw; (case rel => exact ⟨5, y0, y1, y2, y3, r, y5, y6, y7, by go_num, by omega, HT.out, sh⟩); (case measure => simp [intOf])
        · have HT := Lib.hid (DigP.mix_s5 HM.out)
          have A := DigP.badd y5 f0
          have A' := DigP.badd' y5 f0
          generalize y5 + f0 = r at A A' HT
          go_wp2_with (first
              | ((with_reducible first | refine Hp.wpl_box sh ?_ ?_ | refine Hp.wpa sh ?_ ?_ | refine Hp.atl_store ?_ ?_); exact rfl; (try (refine Hp.wsB sh ?_)); clear sh; (try clear F); go_simp; (first | intro b w1 sh | intro w1 sh); have F := sh.fx)
              | fail)
          refine Hp.region_soft (by kernel_rfl) sh (fun _ q => Hp.Sh.drop1 q) ?_; clear sh; (try clear F)
          (try simp only [Hp.p2, Hp.p3])
          (refine Hp.tks (i := 0) (oi := ⟨some 100, Op.move (Operand.tmp 12), _, _, _, none⟩) (fun _ q => Hp.Sh.drop1 q) ?_)
          (refine Hp.tks (i := 1) (oi := ⟨some 101, Op.move (Operand.tmp 12), _, _, _, none⟩) (fun _ q => Hp.Sh.drop1 q) ?_)
          (refine Hp.tks (i := 2) (oi := ⟨some 102, Op.indexAddr 62 (Operand.tmp 6) (Operand.tmp 101), _, _, _, none⟩) (fun _ q => Hp.Sh.drop1 q) ?_)
          (refine Hp.tks (i := 4) (oi := ⟨some 104, Op.move (Operand.tmp 12), _, _, _, none⟩) (fun _ q => Hp.Sh.drop1 q) ?_)
          (refine Hp.tks (i := 5) (oi := ⟨some 105, Op.indexAddr 62 (Operand.tmp 2) (Operand.tmp 104), _, _, _, none⟩) (fun _ q => Hp.Sh.drop1 q) ?_)
          (refine Hp.tk (i := 6) (oi := ⟨some 106, Op.load 61 (Operand.tmp 105), _, _, _, none⟩) _ (fun _ q => Hp.Sh.drop1 q) (fun W hW => by (have F := Hp.Sh.facts hW); (have hd := Hp.Sh.data hW); (try simp only [Hp.Facts, Hp.CellsAt, Nat.reduceAdd, Hp.c1, Hp.c2] at F); skip; go_simp; (try with_reducible rfl)) ?_)
          refine Hp.soft_make (i := 3) (o := ⟨some 103, Op.load 61 (Operand.tmp 102), _, _, _, none⟩) (by kernel_rfl) rfl (by rfl) (fun w1 sh K hK => ?_); (try clear F); (try have F := Hp.Sh.facts sh); (try simp only [Hp.Facts, Hp.CellsAt, Nat.reduceAdd, Hp.c1, Hp.c2] at F); (go_simp); refine hK _ _ _ _ _ _ (fun _ q => Hp.Sh.drop1 q) (fun _ q => q) sh ?_; clear hK K; clear sh; (try clear F); (try simp only [Act.put, Hp.p1, Hp.p2, Hp.p3])
          (refine Hp.tks (i := 7) (oi := ⟨some 107, Op.binOp BinOp.add 61 (Operand.tmp 103) (Operand.tmp 106) 61, _, _, _, none⟩) (fun _ q => Hp.Sh.drop1 q) ?_)
          (refine Hp.tks (i := 8) (oi := ⟨some 108, Op.indexAddr 62 (Operand.tmp 6) (Operand.tmp 100), _, _, _, none⟩) (fun _ q => Hp.Sh.drop1 q) ?_)
          refine Hp.soft_make (i := 9) (o := ⟨none, Op.store 61 (Operand.tmp 108) (Operand.tmp 107), _, _, _, none⟩) (by kernel_rfl) rfl (by rfl) (fun w1 sh K hK => ?_); (try clear F); (try have F := Hp.Sh.facts sh); (try simp only [Hp.Facts, Hp.CellsAt, Nat.reduceAdd, Hp.c1, Hp.c2] at F); (refine Hp.wp_store 0 sh rfl rfl rfl rfl (by kernel_rfl) (Nat.le_of_ble_eq_true rfl) rfl ?_; clear sh; go_simp; intro w1 sh); refine hK _ _ _ _ _ _ (fun _ q => Hp.Sh.drop1 q) (fun _ q => q) sh ?_; clear hK K; clear sh; (try clear F); (try simp only [Act.put, Hp.p1, Hp.p2, Hp.p3])
          refine Hp.soft_done (by kernel_rfl) (fun w1 sh => ?_) _; (try clear F); (try have F := Hp.Sh.facts sh); (try simp only [Hp.Facts, Hp.CellsAt, Nat.reduceAdd, Hp.c1, Hp.c2] at F)
          go_wp2; go_roundw; (case rel => exact ⟨6, y0, y1, y2, y3, y4, r, y6, y7, by go_num, by omega, HT.out, sh⟩); (case measure => simp [intOf])
        · have HT := Lib.hid (DigP.mix_s6 HM.out)
          have A := DigP.badd y6 g0
          have A' := DigP.badd' y6 g0
          generalize y6 + g0 = r at A A' HT
          go_wp2_with (first
              | ((with_reducible first | refine Hp.wpl_box sh ?_ ?_ | refine Hp.wpa sh ?_ ?_ | refine Hp.atl_store ?_ ?_); exact rfl; (try (refine Hp.wsB sh ?_)); clear sh; (try clear F); go_simp; (first | intro b w1 sh | intro w1 sh); have F := sh.fx)
              | fail)
          refine Hp.region_soft (by kernel_rfl) sh (fun _ q => Hp.Sh.drop1 q) ?_; clear sh; (try clear F)
          (try simp only [Hp.p2, Hp.p3])
          (refine Hp.tks (i := 0) (oi := ⟨some 100, Op.move (Operand.tmp 12), _, _, _, none⟩) (fun _ q => Hp.Sh.drop1 q) ?_)
          (refine Hp.tks (i := 1) (oi := ⟨some 101, Op.move (Operand.tmp 12), _, _, _, none⟩) (fun _ q => Hp.Sh.drop1 q) ?_)
          (refine Hp.tks (i := 2) (oi := ⟨some 102, Op.indexAddr 62 (Operand.tmp 6) (Operand.tmp 101), _, _, _, none⟩) (fun _ q => Hp.Sh.drop1 q) ?_)
          (refine Hp.tks (i := 4) (oi := ⟨some 104, Op.move (Operand.tmp 12), _, _, _, none⟩) (fun _ q => Hp.Sh.drop1 q) ?_)
          (refine Hp.tks (i := 5) (oi := ⟨some 105, Op.indexAddr 62 (Operand.tmp 2) (Operand.tmp 104), _, _, _, none⟩) (fun _ q => Hp.Sh.drop1 q) ?_)
          (refine Hp.tk (i := 6) (oi := ⟨some 106, Op.load 61 (Operand.tmp 105), _, _, _, none⟩) _ (fun _ q => Hp.Sh.drop1 q) (fun W hW => by (have F := Hp.Sh.facts hW); (have hd := Hp.Sh.data hW); (try simp only [Hp.Facts, Hp.CellsAt, Nat.reduceAdd, Hp.c1, Hp.c2] at F); skip; go_simp; (try with_reducible rfl)) ?_)
          refine Hp.soft_make (i := 3) (o := ⟨some 103, Op.load 61 (Operand.tmp 102), _, _, _, none⟩) (by kernel_rfl) rfl (by rfl) (fun w1 sh K hK => ?_); (try clear F); (try have F := Hp.Sh.facts sh); (try simp only [Hp.Facts, Hp.CellsAt, Nat.reduceAdd, Hp.c1, Hp.c2] at F); (go_simp); refine hK _ _ _ _ _ _ (fun _ q => Hp.Sh.drop1 q) (fun _ q => q) sh ?_; clear hK K; clear sh; (try clear F); (try simp only [Act.put, Hp.p1, Hp.p2, Hp.p3])
          (refine Hp.tks (i := 7) (oi := ⟨some 107, Op.binOp BinOp.add 61 (Operand.tmp 103) (Operand.tmp 106) 61, _, _, _, none⟩) (fun _ q => Hp.Sh.drop1 q) ?_)
          (refine Hp.tks (i := 8) (oi := ⟨some 108, Op.indexAddr 62 (Operand.tmp 6) (Operand.tmp 100), _, _, _, none⟩) (fun _ q => Hp.Sh.drop1 q) ?_)
          refine Hp.soft_make (i := 9) (o := ⟨none, Op.store 61 (Operand.tmp 108) (Operand.tmp 107), _, _, _, none⟩) (by kernel_rfl) rfl (by rfl) (fun w1 sh K hK => ?_); (try clear F); (try have F := Hp.Sh.facts sh); (try simp only [Hp.Facts, Hp.CellsAt, Nat.reduceAdd, Hp.c1, Hp.c2] at F); (refine Hp.wp_store 0 sh rfl rfl rfl rfl (by kernel_rfl) (Nat.le_of_ble_eq_true rfl) rfl ?_; clear sh; go_simp; intro w1 sh); refine hK _ _ _ _ _ _ (fun _ q => Hp.Sh.drop1 q) (fun _ q => q) sh ?_; clear hK K; clear sh; (try clear F); (try simp only [Act.put, Hp.p1, Hp.p2, Hp.p3])
          refine Hp.soft_done (by kernel_rfl) (fun w1 sh => ?_) _; (try clear F); (try have F := Hp.Sh.facts sh); (try simp only [Hp.Facts, Hp.CellsAt, Nat.reduceAdd, Hp.c1, Hp.c2] at F)
          go_wp2; go_roundw; (case rel => exact ⟨7, y0, y1, y2, y3, y4, y5, r, y7, by go_num, by omega, HT.out, sh⟩); (case measure => simp [intOf])
        · have HT := Lib.hid (DigP.mix_s7 HM.out)
          have A := DigP.badd y7 h0
          have A' := DigP.badd' y7 h0
          generalize y7 + h0 = r at A A' HT
          go_wp2_with (first
              | ((with_reducible first | refine Hp.wpl_box sh ?_ ?_ | refine Hp.wpa sh ?_ ?_ | refine Hp.atl_store ?_ ?_); exact rfl; (try (refine Hp.wsB sh ?_)); clear sh; (try clear F); go_simp; (first | intro b w1 sh | intro w1 sh); have F := sh.fx)
              | fail)
          refine Hp.region_soft (by kernel_rfl) sh (fun _ q => Hp.Sh.drop1 q) ?_; clear sh; (try clear F)
          (try simp only [Hp.p2, Hp.p3])
          (refine Hp.tks (i := 0) (oi := ⟨some 100, Op.move (Operand.tmp 12), _, _, _, none⟩) (fun _ q => Hp.Sh.drop1 q) ?_)
          (refine Hp.tks (i := 1) (oi := ⟨some 101, Op.move (Operand.tmp 12), _, _, _, none⟩) (fun _ q => Hp.Sh.drop1 q) ?_)
          (refine Hp.tks (i := 2) (oi := ⟨some 102, Op.indexAddr 62 (Operand.tmp 6) (Operand.tmp 101), _, _, _, none⟩) (fun _ q => Hp.Sh.drop1 q) ?_)
          (refine Hp.tks (i := 4) (oi := ⟨some 104, Op.move (Operand.tmp 12), _, _, _, none⟩) (fun _ q => Hp.Sh.drop1 q) ?_)
          (refine Hp.tks (i := 5) (oi := ⟨some 105, Op.indexAddr 62 (Operand.tmp 2) (Operand.tmp 104), _, _, _, none⟩) (fun _ q => Hp.Sh.drop1 q) ?_)
          (refine Hp.tk (i := 6) (oi := ⟨some 106, Op.load 61 (Operand.tmp 105), _, _, _, none⟩) _ (fun _ q => Hp.Sh.drop1 q) (fun W hW => by (have F := Hp.Sh.facts hW); (have hd := Hp.Sh.data hW); (try simp only [Hp.Facts, Hp.CellsAt, Nat.reduceAdd, Hp.c1, Hp.c2] at F); skip; go_simp; (try with_reducible rfl)) ?_)
          refine Hp.soft_make (i := 3) (o := ⟨some 103, Op.load 61 (Operand.tmp 102), _, _, _, none⟩) (by kernel_rfl) rfl (by rfl) (fun w1 sh K hK => ?_); (try clear F); (try have F := Hp.Sh.facts sh); (try simp only [Hp.Facts, Hp.CellsAt, Nat.reduceAdd, Hp.c1, Hp.c2] at F); (go_simp); refine hK _ _ _ _ _ _ (fun _ q => Hp.Sh.drop1 q) (fun _ q => q) sh ?_; clear hK K; clear sh; (try clear F); (try simp only [Act.put, Hp.p1, Hp.p2, Hp.p3])
          (refine Hp.tks (i := 7) (oi := ⟨some 107, Op.binOp BinOp.add 61 (Operand.tmp 103) (Operand.tmp 106) 61, _, _, _, none⟩) (fun _ q => Hp.Sh.drop1 q) ?_)
          (refine Hp.tks (i := 8) (oi := ⟨some 108, Op.indexAddr 62 (Operand.tmp 6) (Operand.tmp 100), _, _, _, none⟩) (fun _ q => Hp.Sh.drop1 q) ?_)
          refine Hp.soft_make (i := 9) (o := ⟨none, Op.store 61 (Operand.tmp 108) (Operand.tmp 107), _, _, _, none⟩) (by kernel_rfl) rfl (by rfl) (fun w1 sh K hK => ?_); (try clear F); (try have F := Hp.Sh.facts sh); (try simp only [Hp.Facts, Hp.CellsAt, Nat.reduceAdd, Hp.c1, Hp.c2] at F); (refine Hp.wp_store 0 sh rfl rfl rfl rfl (by kernel_rfl) (Nat.le_of_ble_eq_true rfl) rfl ?_; clear sh; go_simp; intro w1 sh); refine hK _ _ _ _ _ _ (fun _ q => Hp.Sh.drop1 q) (fun _ q => q) sh ?_; clear hK K; clear sh; (try clear F); (try simp only [Act.put, Hp.p1, Hp.p2, Hp.p3])
          refine Hp.soft_done (by kernel_rfl) (fun w1 sh => ?_) _; (try clear F); (try have F := Hp.Sh.facts sh); (try simp only [Hp.Facts, Hp.CellsAt, Nat.reduceAdd, Hp.c1, Hp.c2] at F)
          go_wp2; go_roundw; (case rel => exact ⟨8, y0, y1, y2, y3, y4, y5, y6, r, by go_num, by omega, HT.out, sh⟩); (case measure => simp [intOf])
        · go_wp2_with (first
              | ((with_reducible first | refine Hp.wpl_box sh ?_ ?_ | refine Hp.wpa sh ?_ ?_ | refine Hp.atl_store ?_ ?_); exact rfl; (try (refine Hp.wsB sh ?_)); clear sh; (try clear F); go_simp; (first | intro b w1 sh | intro w1 sh); have F := sh.fx)
              | fail)
          exact bodyPost_ret (Hp.res_c rfl rfl (sh.load 1 rfl (by kernel_rfl) (by kernel_rfl))) rfl ⟨congrArg Ending.returned (show _ = Value.agg _ by rw [HP.out, HM.out]; rfl), sh.below⟩

end Go.Proofs.YtfcffglgkblidaaDoor
