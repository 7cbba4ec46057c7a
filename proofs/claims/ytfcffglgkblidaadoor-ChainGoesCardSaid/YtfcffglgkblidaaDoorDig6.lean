
/-
  The walks of Add, the program's and the reference's.
-/
import Derived.Test.YtfcffglgkblidaaDoorDig5
import Derived.Test.YtfcffglgkblidaaDoorDigPlain2
namespace Go.Proofs.YtfcffglgkblidaaDoor
open Go.RowKit
set_option linter.unusedVariables false
set_option linter.unusedSimpArgs false

namespace DigP
/-- A state as a value. -/
def stV (s : St) : List Value := v8 s.1 ++ [.int .u64 (s.2.1 : Int), .string (bstr s.2.2)]
theorem eat_next (v : V8) (l : List UInt8) (h : 64 ≤ l.length) : eat l.length v l = eat (l.drop 64).length (block v (l.take 64)) (l.drop 64) := by
  obtain ⟨m, hm⟩ : ∃ m, l.length = m + 1 := ⟨l.length - 1, by omega⟩
  rw [hm, eat, if_pos h]
  exact eat_fuel _ _ _ _ (by rw [List.length_drop]; omega) (by omega)
theorem cut_front (l : List UInt8) (k : Nat) : (bstr l).extract 0 k = bstr (l.take k) := by rw [bstr_extract]; rfl
theorem cut_back (l : List UInt8) (k : Nat) : (bstr l).extract k l.length = bstr (l.drop k) := by
  rw [bstr_extract, bstr_data, List.take_of_length_le (Nat.le_refl _)]
theorem nwrap (n k : Nat) : IntKind.u64.wrap ((n : Int) + (k : Int)) = (((n + k) % 18446744073709551616 : Nat) : Int) := by
  rw [wrapU64]; omega
theorem nwrap' (n k : Nat) : ((n : Int) + (k : Int)) % 18446744073709551616 = (((n + k) % 18446744073709551616 : Nat) : Int) := by omega
theorem k64 {k : Nat} (h : k ≤ 1048576) : IntKind.u64.wrap (k : Int) = k := by rw [wrapU64]; omega
end DigP

theorem Tryd.z_st (W : World) : (zeroValue 64).run Tryd.prog W = .ok (.agg #[.int .u32 0, .int .u32 0, .int .u32 0, .int .u32 0, .int .u32 0, .int .u32 0, .int .u32 0, .int .u32 0, .int .u64 0, .string ⟨#[]⟩]) W := by kernel_rfl

set_option maxHeartbeats 8000000 in
set_option maxRecDepth 100000 in
theorem dadd (v : DigP.V8) (n : Nat) (hn : n < 18446744073709551616) (r b : List UInt8) (hr : r.length ≤ 1048576) (hb : b.length ≤ 1048576) (w : World) (hG : Hp.RdV w (some ⟨0, 0, none⟩) (DigP.wds DigP.consts)) : Calls Tryd.prog 33 #[.agg (DigP.stV (v, n, r)).toArray, .string (bstr b)] w fun e w' => e = .returned (.agg (DigP.stV (DigP.add (v, n, r) b)).toArray) ∧ Below w.heap.size w w' := by
  have sh := (Hp.Sh.start (RdV_rob hG) : Hp.Sh w w [] (fun W => Hp.RdV W (some ⟨0, 0, none⟩) (DigP.wds DigP.consts)))
  obtain ⟨a0, b0, c0, d0, e0, f0, g0, h0⟩ := v
  have HR := Lib.hid (show DigP.add ((a0, b0, c0, d0, e0, f0, g0, h0), n, r) b = ((DigP.eat (r ++ b).length (a0, b0, c0, d0, e0, f0, g0, h0) (r ++ b)).1, (n + b.length) % 18446744073709551616, (DigP.eat (r ++ b).length (a0, b0, c0, d0, e0, f0, g0, h0) (r ++ b)).2) by unfold DigP.add; rw [List.length_append])
  have s1 : (bstr b).size = b.length := bstr_size b
  have s2 : (bstr r).size = r.length := bstr_size r
  have s3 := bstr_append r b
  have s4 : ¬ 9223372036854775807 < r.length + b.length := by omega
  have s5 := DigP.nwrap n b.length
  have s6 := DigP.nwrap' n b.length
  have s7 := DigP.k64 hb
  have HM : (n + b.length) % 18446744073709551616 < 18446744073709551616 := by omega
  generalize (n + b.length) % 18446744073709551616 = m at s5 s6 HR HM
  have HL : (r ++ b).length ≤ 2097152 := by rw [List.length_append]; omega
  generalize r ++ b = l at s3 HR HL
  show Calls _ _ #[.agg #[.int .u32 (a0.toNat : Int), .int .u32 (b0.toNat : Int), .int .u32 (c0.toNat : Int), .int .u32 (d0.toNat : Int), .int .u32 (e0.toNat : Int), .int .u32 (f0.toNat : Int), .int .u32 (g0.toNat : Int), .int .u32 (h0.toNat : Int), .int .u64 (n : Int), .string (bstr r)], _] _ _
  go_enter Tryd.func33, Tryd.ntmps33
  have F := sh.fx
  have tok_bs : True := trivial
  have tok_br : True := trivial
  go_wp2_with (first
      | ((with_reducible first | refine Hp.wpl_box sh ?_ ?_ | refine Hp.wpa sh ?_ ?_ | refine Hp.atl_store ?_ ?_); exact rfl; (try (refine Hp.wsB sh ?_)); clear sh; (try clear F); go_simp; (first | (have tok := tok_bs; clear tok tok_bs; intro bs w1 sh) | (have tok := tok_br; clear tok tok_br; intro br w1 sh) | intro b w1 sh | intro w1 sh); have F := sh.fx)
      | fail)
  clear s1 s2 s3 s4 s5 s6 s7
  go_loopw [5] (fun t wr => ∃ (l' : List UInt8) (a b c d e f g h : DigP.Wd), t = .string (bstr l') ∧ l'.length ≤ 2097152 ∧ Hid (DigP.eat l'.length (a, b, c, d, e, f, g, h) l' = DigP.eat l.length (a0, b0, c0, d0, e0, f0, g0, h0) l) ∧ Hp.Sh w wr [(br, #[.int .u32 0, .int .u32 0, .int .u32 0, .int .u32 0, .int .u32 0, .int .u32 0, .int .u32 0, .int .u32 0, .int .u64 0, .string ⟨#[]⟩], 64), (bs, #[.int .u32 (a.toNat : Int), .int .u32 (b.toNat : Int), .int .u32 (c.toNat : Int), .int .u32 (d.toNat : Int), .int .u32 (e.toNat : Int), .int .u32 (f.toNat : Int), .int .u32 (g.toNat : Int), .int .u32 (h.toNat : Int), .int .u64 (m : Int), .string (bstr r)], 64)] (fun W => Hp.RdV W (some ⟨0, 0, none⟩) (DigP.wds DigP.consts))) (fun t _ => match t with | .string s => s.size | _ => 0)
  case atStart => exact ⟨l, a0, b0, c0, d0, e0, f0, g0, h0, rfl, HL, rfl, sh⟩
  case round =>
    clear sh F
    obtain ⟨l', a, b, c, d, e, f, g, h, rfl, hl', HE, sh⟩ := hrel
    have s1 : (bstr l').size = l'.length := bstr_size l'
    have F := sh.fx
    by_cases hlt : 64 ≤ l'.length
    · have hI : (64 : Int) ≤ (l'.length : Int) := by omega
      have K0 := Lib.hid (fun W q => dblock a b c d e f g h (l'.take 64) (by rw [List.length_take]; omega) W q)
      have HN := Lib.hid (DigP.eat_next (a, b, c, d, e, f, g, h) l' hlt)
      obtain ⟨⟨x0, x1, x2, x3, x4, x5, x6, x7⟩, hx⟩ : ∃ x, DigP.block (a, b, c, d, e, f, g, h) (l'.take 64) = x := ⟨_, rfl⟩
      rw [hx] at K0 HN
      have K1 := Lib.hid (show ∀ W, Hp.RdV W (some ⟨0, 0, none⟩) (DigP.wds DigP.consts) → Calls Tryd.prog 56 #[.agg #[.int .u32 (a.toNat : Int), .int .u32 (b.toNat : Int), .int .u32 (c.toNat : Int), .int .u32 (d.toNat : Int), .int .u32 (e.toNat : Int), .int .u32 (f.toNat : Int), .int .u32 (g.toNat : Int), .int .u32 (h.toNat : Int)], .string (bstr (l'.take 64))] W fun e w' => e = .returned (.agg #[.int .u32 (x0.toNat : Int), .int .u32 (x1.toNat : Int), .int .u32 (x2.toNat : Int), .int .u32 (x3.toNat : Int), .int .u32 (x4.toNat : Int), .int .u32 (x5.toNat : Int), .int .u32 (x6.toNat : Int), .int .u32 (x7.toNat : Int)]) ∧ Below W.heap.size W w' from K0.out)
      clear K0 hx
      have c1 := DigP.cut_front l' 64
      have c2 := DigP.cut_back l' 64
      have hl2 : (l'.drop 64).length ≤ 2097152 := by rw [List.length_drop]; omega
      have hl3 := Lib.hid (show (l'.drop 64).length < l'.length by rw [List.length_drop]; omega)
      generalize l'.take 64 = lt at K1 c1
      generalize l'.drop 64 = ld at HN c2 hl2 hl3
      go_wp2_with (first
          | ((with_reducible first | refine Hp.wpl_box sh ?_ ?_ | refine Hp.wpa sh ?_ ?_ | refine Hp.atl_store ?_ ?_); exact rfl; (try (refine Hp.wsB sh ?_)); clear sh; (try clear F); go_simp; (first | intro b w1 sh | intro w1 sh); have F := sh.fx)
          | fail)
      refine Hp.region_soft (by kernel_rfl) sh (fun _ q => Hp.Sh.drop2 q) ?_; clear sh; (try clear F)
      (try simp only [Hp.p2, Hp.p3])
      (refine Hp.tks (i := 0) (oi := ⟨some 20, Op.fieldAddr 64 (Operand.tmp 2) 0, _, _, _, none⟩) (fun _ q => Hp.Sh.drop2 q) ?_)
      (refine Hp.tks (i := 2) (oi := ⟨some 22, Op.move (Operand.tmp 5), _, _, _, none⟩) (fun _ q => Hp.Sh.drop2 q) ?_)
      (refine Hp.tks (i := 3) (oi := ⟨some 23, Op.slice 9 (Operand.tmp 22) none (some (Operand.const (Value.int IntKind.i64 64))) none, _, _, _, none⟩) (fun _ q => Hp.Sh.drop2 q) ?_)
      refine Hp.soft_make (i := 1) (o := ⟨some 21, Op.load 62 (Operand.tmp 20), _, _, _, none⟩) (by kernel_rfl) rfl (by rfl) (fun w1 sh K hK => ?_); (try clear F); (try have F := Hp.Sh.facts sh); (try simp only [Hp.Facts, Hp.CellsAt, Nat.reduceAdd, Hp.c1, Hp.c2] at F); (go_simp); refine hK _ _ _ _ _ _ (fun _ q => Hp.Sh.drop2 q) (fun _ q => q) sh ?_; clear hK K; clear sh; (try clear F); (try simp only [Act.put, Hp.p1, Hp.p2, Hp.p3])
      (refine Hp.cl (i := 4) (oi := ⟨some 24, Op.call { callee := Callee.value (Operand.func 56), args := #[Operand.tmp 21, Operand.tmp 23], argTypes := #[62, 9] }, _, _, _, none⟩) _ _ _ (fun _ q => Hp.Sh.drop2 q) (fun W hW => by go_simp) (fun W hW => (K1.out W hW.data)) ?_)
      (refine Hp.tks (i := 5) (oi := ⟨some 25, Op.fieldAddr 64 (Operand.tmp 2) 0, _, _, _, none⟩) (fun _ q => Hp.Sh.drop2 q) ?_)
      refine Hp.soft_make (i := 6) (o := ⟨none, Op.store 62 (Operand.tmp 25) (Operand.tmp 24), _, _, _, none⟩) (by kernel_rfl) rfl (by rfl) (fun w1 sh K hK => ?_); (try clear F); (try have F := Hp.Sh.facts sh); (try simp only [Hp.Facts, Hp.CellsAt, Nat.reduceAdd, Hp.c1, Hp.c2] at F); (refine Hp.wp_store 1 sh rfl rfl rfl rfl (by kernel_rfl) (Nat.le_of_ble_eq_true rfl) rfl ?_; clear sh; go_simp; intro w1 sh); refine hK _ _ _ _ _ _ (fun _ q => Hp.Sh.drop2 q) (fun _ q => q) sh ?_; clear hK K; clear sh; (try clear F); (try simp only [Act.put, Hp.p1, Hp.p2, Hp.p3])
      refine Hp.soft_done (by kernel_rfl) (fun w1 sh => ?_) _; (try clear F); (try have F := Hp.Sh.facts sh); (try simp only [Hp.Facts, Hp.CellsAt, Nat.reduceAdd, Hp.c1, Hp.c2] at F)
      go_wp2_with (first
          | ((with_reducible first | refine Hp.wpl_box sh ?_ ?_ | refine Hp.wpa sh ?_ ?_ | refine Hp.atl_store ?_ ?_); exact rfl; (try (refine Hp.wsB sh ?_)); clear sh; (try clear F); go_simp; (first | intro b w1 sh | intro w1 sh); have F := sh.fx)
          | fail)
      go_roundw
      case rel => exact ⟨ld, x0, x1, x2, x3, x4, x5, x6, x7, rfl, hl2, by show _ = _; rw [← HN.out, HE.out], sh⟩
      case measure => show (bstr ld).size < (bstr l').size; rw [bstr_size, bstr_size]; exact hl3.out
    · have hI : ¬ (64 : Int) ≤ (l'.length : Int) := by omega
      have hI2 : (l'.length : Int) < 64 := by omega
      have HE2 := Lib.hid (show DigP.eat l.length (a0, b0, c0, d0, e0, f0, g0, h0) l = ((a, b, c, d, e, f, g, h), l') by rw [← HE.out]; exact DigP.eat_short _ _ _ (by omega))
      go_wp2_with (first
          | ((with_reducible first | refine Hp.wpl_box sh ?_ ?_ | refine Hp.wpa sh ?_ ?_ | refine Hp.atl_store ?_ ?_); exact rfl; (try (refine Hp.wsB sh ?_)); clear sh; (try clear F); go_simp; (first | intro b w1 sh | intro w1 sh); have F := sh.fx)
          | fail)
      go_fit (dclone (bstr l') _ (by rw [bstr_size]; omega))
      rintro e w1 ⟨rfl, hb⟩
      replace sh := sh.call hb; clear hb; (try clear F); have F := sh.fx
      go_wp2_with (first
          | ((with_reducible first | refine Hp.wpl_box sh ?_ ?_ | refine Hp.wpa sh ?_ ?_ | refine Hp.atl_store ?_ ?_); exact rfl; (try (refine Hp.wsB sh ?_)); clear sh; (try clear F); go_simp; (first | intro b w1 sh | intro w1 sh); have F := sh.fx)
          | fail)
      exact bodyPost_ret (Hp.res_c rfl rfl (sh.load 0 rfl (by kernel_rfl) (by kernel_rfl))) rfl ⟨congrArg Ending.returned (show _ = Value.agg _ by rw [HR.out, HE2.out]; rfl), sh.below⟩

set_option maxHeartbeats 8000000 in
set_option maxRecDepth 100000 in
theorem dradd (v : DigP.V8) (n : Nat) (hn : n < 18446744073709551616) (r b : List UInt8) (hr : r.length ≤ 1048576) (hb : b.length ≤ 1048576) (w : World) : Calls Tryd.prog 53 #[.agg (DigP.stV (v, n, r)).toArray, .string (bstr b)] w fun e w' => e = .returned (.agg (DigP.stV (DigP.add (v, n, r) b)).toArray) ∧ Below w.heap.size w w' := by
  have sh := (Hp.Sh.start (fun _ _ => trivial) : Hp.Sh w w [] (fun _ => True))
  obtain ⟨a0, b0, c0, d0, e0, f0, g0, h0⟩ := v
  have HR := Lib.hid (show DigP.add ((a0, b0, c0, d0, e0, f0, g0, h0), n, r) b = ((DigP.eat (r ++ b).length (a0, b0, c0, d0, e0, f0, g0, h0) (r ++ b)).1, (n + b.length) % 18446744073709551616, (DigP.eat (r ++ b).length (a0, b0, c0, d0, e0, f0, g0, h0) (r ++ b)).2) by unfold DigP.add; rw [List.length_append])
  have s1 : (bstr b).size = b.length := bstr_size b
  have s2 : (bstr r).size = r.length := bstr_size r
  have s3 := bstr_append r b
  have s4 : ¬ 9223372036854775807 < r.length + b.length := by omega
  have s5 := DigP.nwrap n b.length
  have s6 := DigP.nwrap' n b.length
  have s7 := DigP.k64 hb
  have HM : (n + b.length) % 18446744073709551616 < 18446744073709551616 := by omega
  generalize (n + b.length) % 18446744073709551616 = m at s5 s6 HR HM
  have HL : (r ++ b).length ≤ 2097152 := by rw [List.length_append]; omega
  generalize r ++ b = l at s3 HR HL
  show Calls _ _ #[.agg #[.int .u32 (a0.toNat : Int), .int .u32 (b0.toNat : Int), .int .u32 (c0.toNat : Int), .int .u32 (d0.toNat : Int), .int .u32 (e0.toNat : Int), .int .u32 (f0.toNat : Int), .int .u32 (g0.toNat : Int), .int .u32 (h0.toNat : Int), .int .u64 (n : Int), .string (bstr r)], _] _ _
  go_enter Tryd.func53, Tryd.ntmps53
  have F := sh.fx
  have tok_bs : True := trivial
  have tok_br : True := trivial
  go_wp2_with (first
      | ((with_reducible first | refine Hp.wpl_box sh ?_ ?_ | refine Hp.wpa sh ?_ ?_ | refine Hp.atl_store ?_ ?_); exact rfl; (try (refine Hp.wsB sh ?_)); clear sh; (try clear F); go_simp; (first | (have tok := tok_bs; clear tok tok_bs; intro bs w1 sh) | (have tok := tok_br; clear tok tok_br; intro br w1 sh) | intro b w1 sh | intro w1 sh); have F := sh.fx)
      | fail)
  clear s1 s2 s3 s4 s5 s6 s7
  go_loopw [5] (fun t wr => ∃ (l' : List UInt8) (a b c d e f g h : DigP.Wd), t = .string (bstr l') ∧ l'.length ≤ 2097152 ∧ Hid (DigP.eat l'.length (a, b, c, d, e, f, g, h) l' = DigP.eat l.length (a0, b0, c0, d0, e0, f0, g0, h0) l) ∧ Hp.Sh w wr [(br, #[.int .u32 0, .int .u32 0, .int .u32 0, .int .u32 0, .int .u32 0, .int .u32 0, .int .u32 0, .int .u32 0, .int .u64 0, .string ⟨#[]⟩], 64), (bs, #[.int .u32 (a.toNat : Int), .int .u32 (b.toNat : Int), .int .u32 (c.toNat : Int), .int .u32 (d.toNat : Int), .int .u32 (e.toNat : Int), .int .u32 (f.toNat : Int), .int .u32 (g.toNat : Int), .int .u32 (h.toNat : Int), .int .u64 (m : Int), .string (bstr r)], 64)] (fun _ => True)) (fun t _ => match t with | .string s => s.size | _ => 0)
  case atStart => exact ⟨l, a0, b0, c0, d0, e0, f0, g0, h0, rfl, HL, rfl, sh⟩
  case round =>
    clear sh F
    obtain ⟨l', a, b, c, d, e, f, g, h, rfl, hl', HE, sh⟩ := hrel
    have s1 : (bstr l').size = l'.length := bstr_size l'
    have F := sh.fx
    by_cases hlt : 64 ≤ l'.length
    · have hI : (64 : Int) ≤ (l'.length : Int) := by omega
      have K0 := Lib.hid (fun W => drblock a b c d e f g h (l'.take 64) (by rw [List.length_take]; omega) W)
      have HN := Lib.hid (DigP.eat_next (a, b, c, d, e, f, g, h) l' hlt)
      obtain ⟨⟨x0, x1, x2, x3, x4, x5, x6, x7⟩, hx⟩ : ∃ x, DigP.block (a, b, c, d, e, f, g, h) (l'.take 64) = x := ⟨_, rfl⟩
      rw [hx] at K0 HN
      have K1 := Lib.hid (show ∀ W, Calls Tryd.prog 76 #[.agg #[.int .u32 (a.toNat : Int), .int .u32 (b.toNat : Int), .int .u32 (c.toNat : Int), .int .u32 (d.toNat : Int), .int .u32 (e.toNat : Int), .int .u32 (f.toNat : Int), .int .u32 (g.toNat : Int), .int .u32 (h.toNat : Int)], .string (bstr (l'.take 64))] W fun e w' => e = .returned (.agg #[.int .u32 (x0.toNat : Int), .int .u32 (x1.toNat : Int), .int .u32 (x2.toNat : Int), .int .u32 (x3.toNat : Int), .int .u32 (x4.toNat : Int), .int .u32 (x5.toNat : Int), .int .u32 (x6.toNat : Int), .int .u32 (x7.toNat : Int)]) ∧ Below W.heap.size W w' from K0.out)
      clear K0 hx
      have c1 := DigP.cut_front l' 64
      have c2 := DigP.cut_back l' 64
      have hl2 : (l'.drop 64).length ≤ 2097152 := by rw [List.length_drop]; omega
      have hl3 := Lib.hid (show (l'.drop 64).length < l'.length by rw [List.length_drop]; omega)
      generalize l'.take 64 = lt at K1 c1
      generalize l'.drop 64 = ld at HN c2 hl2 hl3
      go_wp2_with (first
          | ((with_reducible first | refine Hp.wpl_box sh ?_ ?_ | refine Hp.wpa sh ?_ ?_ | refine Hp.atl_store ?_ ?_); exact rfl; (try (refine Hp.wsB sh ?_)); clear sh; (try clear F); go_simp; (first | intro b w1 sh | intro w1 sh); have F := sh.fx)
          | fail)
      refine Hp.region_soft (by kernel_rfl) sh (fun _ q => Hp.Sh.drop2 q) ?_; clear sh; (try clear F)
      (try simp only [Hp.p2, Hp.p3])
      (refine Hp.tks (i := 0) (oi := ⟨some 20, Op.fieldAddr 64 (Operand.tmp 2) 0, _, _, _, none⟩) (fun _ q => Hp.Sh.drop2 q) ?_)
      (refine Hp.tks (i := 2) (oi := ⟨some 22, Op.move (Operand.tmp 5), _, _, _, none⟩) (fun _ q => Hp.Sh.drop2 q) ?_)
      (refine Hp.tks (i := 3) (oi := ⟨some 23, Op.slice 9 (Operand.tmp 22) none (some (Operand.const (Value.int IntKind.i64 64))) none, _, _, _, none⟩) (fun _ q => Hp.Sh.drop2 q) ?_)
      refine Hp.soft_make (i := 1) (o := ⟨some 21, Op.load 62 (Operand.tmp 20), _, _, _, none⟩) (by kernel_rfl) rfl (by rfl) (fun w1 sh K hK => ?_); (try clear F); (try have F := Hp.Sh.facts sh); (try simp only [Hp.Facts, Hp.CellsAt, Nat.reduceAdd, Hp.c1, Hp.c2] at F); (go_simp); refine hK _ _ _ _ _ _ (fun _ q => Hp.Sh.drop2 q) (fun _ q => q) sh ?_; clear hK K; clear sh; (try clear F); (try simp only [Act.put, Hp.p1, Hp.p2, Hp.p3])
      (refine Hp.cl (i := 4) (oi := ⟨some 24, Op.call { callee := Callee.value (Operand.func 76), args := #[Operand.tmp 21, Operand.tmp 23], argTypes := #[62, 9] }, _, _, _, none⟩) _ _ _ (fun _ q => Hp.Sh.drop2 q) (fun W hW => by go_simp) (fun W hW => (K1.out W)) ?_)
      (refine Hp.tks (i := 5) (oi := ⟨some 25, Op.fieldAddr 64 (Operand.tmp 2) 0, _, _, _, none⟩) (fun _ q => Hp.Sh.drop2 q) ?_)
      refine Hp.soft_make (i := 6) (o := ⟨none, Op.store 62 (Operand.tmp 25) (Operand.tmp 24), _, _, _, none⟩) (by kernel_rfl) rfl (by rfl) (fun w1 sh K hK => ?_); (try clear F); (try have F := Hp.Sh.facts sh); (try simp only [Hp.Facts, Hp.CellsAt, Nat.reduceAdd, Hp.c1, Hp.c2] at F); (refine Hp.wp_store 1 sh rfl rfl rfl rfl (by kernel_rfl) (Nat.le_of_ble_eq_true rfl) rfl ?_; clear sh; go_simp; intro w1 sh); refine hK _ _ _ _ _ _ (fun _ q => Hp.Sh.drop2 q) (fun _ q => q) sh ?_; clear hK K; clear sh; (try clear F); (try simp only [Act.put, Hp.p1, Hp.p2, Hp.p3])
      refine Hp.soft_done (by kernel_rfl) (fun w1 sh => ?_) _; (try clear F); (try have F := Hp.Sh.facts sh); (try simp only [Hp.Facts, Hp.CellsAt, Nat.reduceAdd, Hp.c1, Hp.c2] at F)
      go_wp2_with (first
          | ((with_reducible first | refine Hp.wpl_box sh ?_ ?_ | refine Hp.wpa sh ?_ ?_ | refine Hp.atl_store ?_ ?_); exact rfl; (try (refine Hp.wsB sh ?_)); clear sh; (try clear F); go_simp; (first | intro b w1 sh | intro w1 sh); have F := sh.fx)
          | fail)
      go_roundw
      case rel => exact ⟨ld, x0, x1, x2, x3, x4, x5, x6, x7, rfl, hl2, by show _ = _; rw [← HN.out, HE.out], sh⟩
      case measure => show (bstr ld).size < (bstr l').size; rw [bstr_size, bstr_size]; exact hl3.out
    · have hI : ¬ (64 : Int) ≤ (l'.length : Int) := by omega
      have hI2 : (l'.length : Int) < 64 := by omega
      have HE2 := Lib.hid (show DigP.eat l.length (a0, b0, c0, d0, e0, f0, g0, h0) l = ((a, b, c, d, e, f, g, h), l') by rw [← HE.out]; exact DigP.eat_short _ _ _ (by omega))
      go_wp2_with (first
          | ((with_reducible first | refine Hp.wpl_box sh ?_ ?_ | refine Hp.wpa sh ?_ ?_ | refine Hp.atl_store ?_ ?_); exact rfl; (try (refine Hp.wsB sh ?_)); clear sh; (try clear F); go_simp; (first | intro b w1 sh | intro w1 sh); have F := sh.fx)
          | fail)
      exact bodyPost_ret (Hp.res_c rfl rfl (sh.load 0 rfl (by kernel_rfl) (by kernel_rfl))) rfl ⟨congrArg Ending.returned (show _ = Value.agg _ by rw [HR.out, HE2.out]; rfl), sh.below⟩


end Go.Proofs.YtfcffglgkblidaaDoor