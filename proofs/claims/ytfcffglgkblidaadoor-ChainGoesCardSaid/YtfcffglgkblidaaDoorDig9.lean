
/-
  Bytes behind an address, turned into a text.
-/
import Derived.Test.YtfcffglgkblidaaDoorDigAr
import Derived.Test.YtfcffglgkblidaaDoorDig6
import Derived.Test.YtfcffglgkblidaaDoorDig8
namespace Go.Proofs.YtfcffglgkblidaaDoor
open Go.RowKit
namespace Hp
section
variable {P : Program}
theorem conv_rdv {W : World} {s : Option Addr} {l : List UInt8} {n cap : Nat} {T S U : TypeId} (h : RdV W s (bcells l)) (hn : n = l.length) (hT : P.underlying T = some (.slice U)) (hU : P.underlying U = some (.int .u8)) (hS : P.underlying S = some .string) :
    (convert T S (.slice s n cap)).run P W = .ok (.string (bstr l)) W := by
  subst hn
  cases s with
  | none =>
    have : l = [] := by
      cases l with
      | nil => rfl
      | cons c t => obtain ⟨p, hp, -⟩ := h (by simp [bcells]); cases hp
    subst this
    exact run_convert_bytes_nil W T U hT hU 0 cap S hS
  | some p =>
    exact run_convert_bytes_back (P := P) W T S U p cap l hT hU hS (fun j hj => h.cell j (by simp [bcells, hj]))
end
end Hp
end Go.Proofs.YtfcffglgkblidaaDoor

/-
  The walks of Start and End, the program's and the reference's.
-/
namespace Go.Proofs.YtfcffglgkblidaaDoor
open Go.RowKit
set_option linter.unusedVariables false
set_option linter.unusedSimpArgs false

namespace DigP
theorem nth8 (v : V8) (q : Nat) (h : q < 8) : (v8 v).toArray[q]? = some (.int .u32 ((nthW v q).toNat : Int)) := by
  obtain ⟨a, b, c, d, e, f, g, hh⟩ := v
  have hq : q = 0 ∨ q = 1 ∨ q = 2 ∨ q = 3 ∨ q = 4 ∨ q = 5 ∨ q = 6 ∨ q = 7 := by omega
  rcases hq with rfl | rfl | rfl | rfl | rfl | rfl | rfl | rfl <;> rfl
theorem nth10 (s : St) (q : Nat) (h : q < 8) : (stV s).toArray[q]? = some (.int .u32 ((nthW s.1 q).toNat : Int)) := by
  obtain ⟨⟨a, b, c, d, e, f, g, hh⟩, n, r⟩ := s
  have hq : q = 0 ∨ q = 1 ∨ q = 2 ∨ q = 3 ∨ q = 4 ∨ q = 5 ∨ q = 6 ∨ q = 7 := by omega
  rcases hq with rfl | rfl | rfl | rfl | rfl | rfl | rfl | rfl <;> rfl
def pad32 (l : List UInt8) : List UInt8 := l ++ List.replicate (32 - l.length) 0
theorem pad32_length {l : List UInt8} (h : l.length ≤ 32) : (pad32 l).length = 32 := by simp [pad32]; omega
theorem pad32_set {l : List UInt8} (x : UInt8) (h : l.length < 32) : (pad32 l).set l.length x = pad32 (l ++ [x]) := by
  unfold pad32
  rw [List.set_append_right _ _ (Nat.le_refl _), Nat.sub_self, show 32 - l.length = (31 - l.length) + 1 by omega, List.replicate_succ, List.set_cons_zero, List.length_append, List.length_singleton, show 32 - (l.length + 1) = 31 - l.length by omega, List.append_assoc]
  rfl
theorem pad32_full {l : List UInt8} (h : l.length = 32) : pad32 l = l := by simp [pad32, h]
theorem bytesOf_length (v : V8) : (bytesOf v).length = 32 := by simp [bytesOf]
theorem bytesOf_next (v : V8) {k : Nat} (h : k < 32) : (bytesOf v).take (k + 1) = (bytesOf v).take k ++ [UInt8.ofNat ((nthW v (k / 4)).toNat / 2 ^ (24 - 8 * (k % 4)))] := by
  rw [List.take_succ_eq_append_getElem (by rw [bytesOf_length]; exact h)]
  simp [bytesOf]
/-- The beginning of what is put behind. -/
def tailA (m : Nat) : List UInt8 := 128 :: List.replicate (m - 1) 0
theorem tailA_length {m : Nat} (h : 1 ≤ m) : (tailA m).length = m := by simp [tailA]; omega
theorem tailA_next {m : Nat} (h : 1 ≤ m) : tailA m ++ [0] = tailA (m + 1) := by
  unfold tailA
  rw [show m + 1 - 1 = (m - 1) + 1 by omega, List.replicate_succ', List.cons_append]
def tailB (M j : Nat) : List UInt8 := (List.range j).map fun i => UInt8.ofNat (M / 2 ^ (56 - 8 * i))
theorem tailB_next (M j : Nat) : tailB M (j + 1) = tailB M j ++ [UInt8.ofNat (M / 2 ^ (56 - 8 * j))] := by simp [tailB, List.range_succ]
theorem tail_eq (v : V8) (n : Nat) (r : List UInt8) : tail (v, n, r) = tailA (1 + tail0 r.length) ++ tailB (n * 8 % 18446744073709551616) 8 := by
  unfold tail tailA tailB
  rw [show 1 + tail0 r.length - 1 = tail0 r.length by omega]; rfl
theorem tail0_lt (r : Nat) : tail0 r < 64 := by unfold tail0; omega
theorem tail_test {r m : Nat} (h1 : 1 ≤ m) (h2 : m ≤ 1 + tail0 r) : (r + m) % 64 = 56 ↔ m = 1 + tail0 r := by unfold tail0 at *; omega
theorem by8 (x : Nat) : IntKind.u8.wrap (x : Int) = ((UInt8.ofNat x).toNat : Int) := by simp [IntKind.wrap, IntKind.bits, IntKind.signed]
theorem by8' (x : Nat) : (x : Int) % 256 = ((UInt8.ofNat x).toNat : Int) := by rw [← by8]; simp [IntKind.wrap, IntKind.bits, IntKind.signed]
theorem wm8 (n : Nat) : IntKind.u64.wrap ((n : Int) * 8) = ((n * 8 % 18446744073709551616 : Nat) : Int) := by rw [wrapU64]; omega
theorem wm8' (n : Nat) : IntKind.u64.wrap (8 * (n : Int)) = ((n * 8 % 18446744073709551616 : Nat) : Int) := by rw [wrapU64]; omega
theorem wm8a (n : Nat) : ((n : Int) * 8) % 18446744073709551616 = ((n * 8 % 18446744073709551616 : Nat) : Int) := by omega
theorem wm8b (n : Nat) : (8 * (n : Int)) % 18446744073709551616 = ((n * 8 % 18446744073709551616 : Nat) : Int) := by omega
theorem ofV (l m : List UInt8) (h : l = m) : Ending.returned (.agg (bA l)) = .returned (.agg (bA m)) := by rw [h]
end DigP


set_option maxHeartbeats 4000000 in
set_option maxRecDepth 100000 in
theorem dstart (w : World) : Calls Tryd.prog 34 #[] w fun e w' => e = .returned (.agg (DigP.stV (DigP.start, 0, [])).toArray) ∧ Below w.heap.size w w' := by
  have sh : Hp.Sh w w [] (fun _ => True) := Hp.Sh.start (fun _ _ => trivial)
  go_enter Tryd.func34, Tryd.ntmps34
  have tok_br : True := trivial
  go_wp2_with (first
      | ((with_reducible first | refine Hp.wpl_box sh ?_ ?_ | refine Hp.wpa sh ?_ ?_ | refine Hp.atl_store ?_ ?_); exact rfl; (try (refine Hp.wsB sh ?_)); clear sh; (try clear F); go_simp; (first | (have tok := tok_br; clear tok tok_br; intro br w1 sh) | intro b w1 sh | intro w1 sh); have F := sh.fx)
      | fail)
  exact bodyPost_ret (Hp.res_c rfl rfl (sh.load 0 rfl (by kernel_rfl) (by kernel_rfl))) rfl ⟨rfl, sh.below⟩

set_option maxHeartbeats 4000000 in
set_option maxRecDepth 100000 in
theorem drstart (w : World) : Calls Tryd.prog 54 #[] w fun e w' => e = .returned (.agg (DigP.stV (DigP.start, 0, [])).toArray) ∧ Below w.heap.size w w' := by
  have sh : Hp.Sh w w [] (fun _ => True) := Hp.Sh.start (fun _ _ => trivial)
  go_enter Tryd.func54, Tryd.ntmps54
  have tok_br : True := trivial
  go_wp2_with (first
      | ((with_reducible first | refine Hp.wpl_box sh ?_ ?_ | refine Hp.wpa sh ?_ ?_ | refine Hp.atl_store ?_ ?_); exact rfl; (try (refine Hp.wsB sh ?_)); clear sh; (try clear F); go_simp; (first | (have tok := tok_br; clear tok tok_br; intro br w1 sh) | intro b w1 sh | intro w1 sh); have F := sh.fx)
      | fail)
  exact bodyPost_ret (Hp.res_c rfl rfl (sh.load 0 rfl (by kernel_rfl) (by kernel_rfl))) rfl ⟨rfl, sh.below⟩

set_option maxHeartbeats 8000000 in
set_option maxRecDepth 100000 in
theorem dend (v : DigP.V8) (n : Nat) (hn : n < 18446744073709551616) (r : List UInt8) (hr : r.length ≤ 1048576) (w : World) (hG : Hp.RdV w (some ⟨0, 0, none⟩) (DigP.wds DigP.consts)) : Calls Tryd.prog 32 #[.agg (DigP.stV (v, n, r)).toArray] w fun e w' => e = .returned (.agg (DigP.bA (DigP.fin (v, n, r)))) ∧ Below w.heap.size w w' := by
  have sh := (Hp.Sh.start (RdV_rob hG) : Hp.Sh w w [] (fun W => Hp.RdV W (some ⟨0, 0, none⟩) (DigP.wds DigP.consts)))
  obtain ⟨a, b, c, d, e, f, g, h⟩ := v
  have K0 := Lib.hid (fun W q => dadd (a, b, c, d, e, f, g, h) n hn r (DigP.tail ((a, b, c, d, e, f, g, h), n, r)) hr (by rw [DigP.tail_eq, List.length_append, DigP.tailA_length (by omega)]; have := DigP.tail0_lt r.length; simp [DigP.tailB]; omega) W q)
  obtain ⟨⟨⟨x0, x1, x2, x3, x4, x5, x6, x7⟩, n2, r2⟩, hx⟩ : ∃ x, DigP.add ((a, b, c, d, e, f, g, h), n, r) (DigP.tail ((a, b, c, d, e, f, g, h), n, r)) = x := ⟨_, rfl⟩
  rw [hx] at K0
  have K1 := Lib.hid (show ∀ W, Hp.RdV W (some ⟨0, 0, none⟩) (DigP.wds DigP.consts) → Calls Tryd.prog 33 #[.agg #[.int .u32 (a.toNat : Int), .int .u32 (b.toNat : Int), .int .u32 (c.toNat : Int), .int .u32 (d.toNat : Int), .int .u32 (e.toNat : Int), .int .u32 (f.toNat : Int), .int .u32 (g.toNat : Int), .int .u32 (h.toNat : Int), .int .u64 (n : Int), .string (bstr r)], .string (bstr (DigP.tail ((a, b, c, d, e, f, g, h), n, r)))] W fun e w' => e = .returned (.agg #[.int .u32 (x0.toNat : Int), .int .u32 (x1.toNat : Int), .int .u32 (x2.toNat : Int), .int .u32 (x3.toNat : Int), .int .u32 (x4.toNat : Int), .int .u32 (x5.toNat : Int), .int .u32 (x6.toNat : Int), .int .u32 (x7.toNat : Int), .int .u64 (n2 : Int), .string (bstr r2)]) ∧ Below W.heap.size W w' from K0.out)
  have HX := Lib.hid (show DigP.fin ((a, b, c, d, e, f, g, h), n, r) = DigP.bytesOf (x0, x1, x2, x3, x4, x5, x6, x7) by unfold DigP.fin; rw [hx])
  rw [DigP.tail_eq] at K1
  clear K0 hx
  have s1 : (bstr r).size = r.length := bstr_size r
  have HT0 := DigP.tail0_lt r.length
  have m1 := DigP.wm8 n
  have m2 := DigP.wm8' n
  have m3 := DigP.wm8a n
  have m4 := DigP.wm8b n
  have HTT := Lib.hid (fun m => DigP.tail_test (r := r.length) (m := m))
  generalize hM : n * 8 % 18446744073709551616 = M at m1 m2 m3 m4 K1
  have HM : M < 18446744073709551616 := by omega
  clear hM
  have HMS := Lib.hid (And.intro m1 (And.intro m2 (And.intro m3 m4)))
  clear m1 m2 m3 m4
  generalize DigP.tail0 r.length = T at HT0 HTT K1
  show Calls _ _ #[.agg #[.int .u32 (a.toNat : Int), .int .u32 (b.toNat : Int), .int .u32 (c.toNat : Int), .int .u32 (d.toNat : Int), .int .u32 (e.toNat : Int), .int .u32 (f.toNat : Int), .int .u32 (g.toNat : Int), .int .u32 (h.toNat : Int), .int .u64 (n : Int), .string (bstr r)]] _ _
  go_enter Tryd.func32, Tryd.ntmps32
  have F := sh.fx
  have tok_bs : True := trivial
  have tok_b2 : True := trivial
  go_wp2_with (first
      | ((with_reducible refine Hp.atl_lit ?_ ?_); exact rfl; (refine Hp.wp_lit 1 (bcells [128]) Tryd.i_u8 Tryd.underlying51 sh rfl rfl (by omega) rfl ?_); clear sh; (try clear F); intro gl w1 sh; (have F := sh.fx); go_simp)
      | ((with_reducible first | refine Hp.wpl_box sh ?_ ?_ | refine Hp.wpa sh ?_ ?_ | refine Hp.atl_store ?_ ?_); exact rfl; (try (refine Hp.wsB sh ?_)); clear sh; (try clear F); go_simp; (first | (have tok := tok_bs; clear tok tok_bs; intro bs w1 sh) | (have tok := tok_b2; clear tok tok_b2; intro b2 w1 sh) | intro b w1 sh | intro w1 sh); have F := sh.fx)
      | fail)
  go_loopw [3] (fun v wr => ∃ (m : Nat) (R : List Hp.Blk), 1 ≤ m ∧ m ≤ 1 + T ∧ Hid (Hp.RowIs 5 1 v m (bcells (DigP.tailA m)) R) ∧ Hp.Sh w wr (R ++ [(b2, DigP.bA DigP.zero32, 23), (bs, #[.int .u32 (a.toNat : Int), .int .u32 (b.toNat : Int), .int .u32 (c.toNat : Int), .int .u32 (d.toNat : Int), .int .u32 (e.toNat : Int), .int .u32 (f.toNat : Int), .int .u32 (g.toNat : Int), .int .u32 (h.toNat : Int), .int .u64 (n : Int), .string (bstr r)], 64)]) (fun W => Hp.RdV W (some ⟨0, 0, none⟩) (DigP.wds DigP.consts))) (fun v _ => match v with | .slice _ n _ => 65 - n | _ => 0)
  case atStart => exact ⟨1, [(_, _, 5)], by omega, by omega, Hp.row_full (n := 1) (by decide) rfl, sh⟩
  case round =>
    clear sh F
    obtain ⟨m, R, hm1, hm2, HR, sh⟩ := hrel
    obtain ⟨g1, cp, rfl, -⟩ := HR.out.head (by omega)
    have F := (Hp.Sh.dropA sh).facts; (try simp only [Hp.Facts, Hp.CellsAt, Nat.reduceAdd, Hp.c1, Hp.c2] at F)
    have q1 : ((r.length : Int) + (m : Int)) % 64 = (((r.length + m) % 64 : Nat) : Int) := by omega
    have q2 : ((r.length : Int) + (m : Int)).tmod 64 = (((r.length + m) % 64 : Nat) : Int) := by rw [Int.tmod_eq_emod_of_nonneg (by omega)]; exact q1
    by_cases hlt : m = 1 + T
    · have ht : (r.length + m) % 64 = 56 := (HTT.out m hm1 hm2).2 hlt
      rw [ht] at q1 q2
      rw [show 1 + T = m from hlt.symm] at K1
      have hmT : m ≤ 64 := by omega
      clear hlt ht hm2
      obtain ⟨m1, m2, m3, m4⟩ := HMS.out
      go_wp2_with (first
          | ((with_reducible first | refine Hp.wpl_box sh ?_ ?_ | refine Hp.wpa sh ?_ ?_ | refine Hp.atl_store ?_ ?_); exact rfl; (try (refine Hp.wsB sh ?_)); clear sh; (try clear F); go_simp; (first | intro b w1 sh | intro w1 sh); have F := sh.fx)
          | fail)
      clear q1 q2 m1 m2 m3 m4
      go_loopw [3, 5] (fun v i wr => ∃ (j : Nat) (R : List Hp.Blk), i = .int .i64 (56 - 8 * (j : Int)) ∧ j ≤ 8 ∧ Hid (Hp.RowIs 5 1 v (m + j) (bcells (DigP.tailA m ++ DigP.tailB M j)) R) ∧ Hp.Sh w wr (R ++ [(b2, DigP.bA DigP.zero32, 23), (bs, #[.int .u32 (a.toNat : Int), .int .u32 (b.toNat : Int), .int .u32 (c.toNat : Int), .int .u32 (d.toNat : Int), .int .u32 (e.toNat : Int), .int .u32 (f.toNat : Int), .int .u32 (g.toNat : Int), .int .u32 (h.toNat : Int), .int .u64 (n : Int), .string (bstr r)], 64)]) (fun W => Hp.RdV W (some ⟨0, 0, none⟩) (DigP.wds DigP.consts))) (fun _ i _ => (intOf i + 8).toNat)
      case atStart => exact ⟨0, R, rfl, by omega, (Lib.hid (by simpa [DigP.tailB] using HR.out)), sh⟩
      case round =>
        clear sh F HR
        obtain ⟨j, R, hv, hj, HR, sh⟩ := hrel
        obtain ⟨g2, cp2, rfl, -⟩ := HR.out.head (by omega)
        have hj9 : j = 0 ∨ j = 1 ∨ j = 2 ∨ j = 3 ∨ j = 4 ∨ j = 5 ∨ j = 6 ∨ j = 7 ∨ j = 8 := by omega
        rcases hj9 with rfl | rfl | rfl | rfl | rfl | rfl | rfl | rfl | rfl
        · rw [show (56 - 8 * ((0 : Nat) : Int)) = 56 from rfl] at hv
          subst hv
          have HN := Lib.hid (DigP.tailB_next M 0)
          rw [show 2 ^ (56 - 8 * 0) = 72057594037927936 from rfl] at HN
          have d1 : (M : Int) / 72057594037927936 = ((M / 72057594037927936 : Nat) : Int) := by omega
          have d2 := DigP.by8 (M / 72057594037927936)
          have d3 := DigP.by8' (M / 72057594037927936)
          generalize UInt8.ofNat (M / 72057594037927936) = y at HN d2 d3
          generalize M / 72057594037927936 = mm at d1 d2 d3
          have F : True := trivial
          go_wp2_with (first
              | ((with_reducible refine Hp.atl_lit ?_ ?_); exact rfl; (refine Hp.wp_lit 1 (bcells [y]) Tryd.i_u8 Tryd.underlying51 sh rfl rfl (by omega) rfl ?_); clear sh; (try clear F); intro gl w1 sh; replace sh := sh.freeze1 (vs := bcells [y]) (fun i v h => by simpa using h); (have F := sh.fx); go_simp)
              | ((with_reducible refine Hp.atl_append 27 ?_ ?_); exact rfl; (refine Hp.wp_append (R := R) (H := [(b2, DigP.bA DigP.zero32, 23), (bs, #[.int .u32 (a.toNat : Int), .int .u32 (b.toNat : Int), .int .u32 (c.toNat : Int), .int .u32 (d.toNat : Int), .int .u32 (e.toNat : Int), .int .u32 (f.toNat : Int), .int .u32 (g.toNat : Int), .int .u32 (h.toNat : Int), .int .u64 (n : Int), .string (bstr r)], 64)]) (news := bcells [y]) Tryd.i_u8 Tryd.underlying51 (by decide) rfl (by decide) sh HR.out rfl rfl rfl sh.data.1 (fun h => by cases h) (Hp.ones_mem rfl) (by omega) ?_); clear sh; (try clear F); intro v1 R1 w1 sh hr; rw [DigP.bc_app, List.append_assoc, ← HN.out] at hr; obtain ⟨g3, cp3, rfl, -⟩ := hr.head (by omega); have HR1 := Lib.hid hr; clear hr; go_simp)
              | ((with_reducible first | refine Hp.wpl_box sh ?_ ?_ | refine Hp.wpa sh ?_ ?_ | refine Hp.atl_store ?_ ?_); exact rfl; (try (refine Hp.wsB sh ?_)); clear sh; (try clear F); go_simp; (first | intro b w1 sh | intro w1 sh); have F := sh.fx)
              | fail)
          clear d1 d2 d3
          go_roundw
          case rel => exact ⟨1, R1, rfl, by omega, HR1.out, sh.imp fun _ h => h.2⟩
          case measure => simp [intOf]
        · rw [show (56 - 8 * ((1 : Nat) : Int)) = 48 from rfl] at hv
          subst hv
          have HN := Lib.hid (DigP.tailB_next M 1)
          rw [show 2 ^ (56 - 8 * 1) = 281474976710656 from rfl] at HN
          have d1 : (M : Int) / 281474976710656 = ((M / 281474976710656 : Nat) : Int) := by omega
          have d2 := DigP.by8 (M / 281474976710656)
          have d3 := DigP.by8' (M / 281474976710656)
          generalize UInt8.ofNat (M / 281474976710656) = y at HN d2 d3
          generalize M / 281474976710656 = mm at d1 d2 d3
          have F : True := trivial
          go_wp2_with (first
              | ((with_reducible refine Hp.atl_lit ?_ ?_); exact rfl; (refine Hp.wp_lit 1 (bcells [y]) Tryd.i_u8 Tryd.underlying51 sh rfl rfl (by omega) rfl ?_); clear sh; (try clear F); intro gl w1 sh; replace sh := sh.freeze1 (vs := bcells [y]) (fun i v h => by simpa using h); (have F := sh.fx); go_simp)
              | ((with_reducible refine Hp.atl_append 27 ?_ ?_); exact rfl; (refine Hp.wp_append (R := R) (H := [(b2, DigP.bA DigP.zero32, 23), (bs, #[.int .u32 (a.toNat : Int), .int .u32 (b.toNat : Int), .int .u32 (c.toNat : Int), .int .u32 (d.toNat : Int), .int .u32 (e.toNat : Int), .int .u32 (f.toNat : Int), .int .u32 (g.toNat : Int), .int .u32 (h.toNat : Int), .int .u64 (n : Int), .string (bstr r)], 64)]) (news := bcells [y]) Tryd.i_u8 Tryd.underlying51 (by decide) rfl (by decide) sh HR.out rfl rfl rfl sh.data.1 (fun h => by cases h) (Hp.ones_mem rfl) (by omega) ?_); clear sh; (try clear F); intro v1 R1 w1 sh hr; rw [DigP.bc_app, List.append_assoc, ← HN.out] at hr; obtain ⟨g3, cp3, rfl, -⟩ := hr.head (by omega); have HR1 := Lib.hid hr; clear hr; go_simp)
              | ((with_reducible first | refine Hp.wpl_box sh ?_ ?_ | refine Hp.wpa sh ?_ ?_ | refine Hp.atl_store ?_ ?_); exact rfl; (try (refine Hp.wsB sh ?_)); clear sh; (try clear F); go_simp; (first | intro b w1 sh | intro w1 sh); have F := sh.fx)
              | fail)
          clear d1 d2 d3
          go_roundw
          case rel => exact ⟨2, R1, rfl, by omega, HR1.out, sh.imp fun _ h => h.2⟩
          case measure => simp [intOf]
        · rw [show (56 - 8 * ((2 : Nat) : Int)) = 40 from rfl] at hv
          subst hv
          have HN := Lib.hid (DigP.tailB_next M 2)
          rw [show 2 ^ (56 - 8 * 2) = 1099511627776 from rfl] at HN
          have d1 : (M : Int) / 1099511627776 = ((M / 1099511627776 : Nat) : Int) := by omega
          have d2 := DigP.by8 (M / 1099511627776)
          have d3 := DigP.by8' (M / 1099511627776)
          generalize UInt8.ofNat (M / 1099511627776) = y at HN d2 d3
          generalize M / 1099511627776 = mm at d1 d2 d3
          have F : True := trivial
          go_wp2_with (first
              | ((with_reducible refine Hp.atl_lit ?_ ?_); exact rfl; (refine Hp.wp_lit 1 (bcells [y]) Tryd.i_u8 Tryd.underlying51 sh rfl rfl (by omega) rfl ?_); clear sh; (try clear F); intro gl w1 sh; replace sh := sh.freeze1 (vs := bcells [y]) (fun i v h => by simpa using h); (have F := sh.fx); go_simp)
              | ((with_reducible refine Hp.atl_append 27 ?_ ?_); exact rfl; (refine Hp.wp_append (R := R) (H := [(b2, DigP.bA DigP.zero32, 23), (bs, #[.int .u32 (a.toNat : Int), .int .u32 (b.toNat : Int), .int .u32 (c.toNat : Int), .int .u32 (d.toNat : Int), .int .u32 (e.toNat : Int), .int .u32 (f.toNat : Int), .int .u32 (g.toNat : Int), .int .u32 (h.toNat : Int), .int .u64 (n : Int), .string (bstr r)], 64)]) (news := bcells [y]) Tryd.i_u8 Tryd.underlying51 (by decide) rfl (by decide) sh HR.out rfl rfl rfl sh.data.1 (fun h => by cases h) (Hp.ones_mem rfl) (by omega) ?_); clear sh; (try clear F); intro v1 R1 w1 sh hr; rw [DigP.bc_app, List.append_assoc, ← HN.out] at hr; obtain ⟨g3, cp3, rfl, -⟩ := hr.head (by omega); have HR1 := Lib.hid hr; clear hr; go_simp)
              | ((with_reducible first | refine Hp.wpl_box sh ?_ ?_ | refine Hp.wpa sh ?_ ?_ | refine Hp.atl_store ?_ ?_); exact rfl; (try (refine Hp.wsB sh ?_)); clear sh; (try clear F); go_simp; (first | intro b w1 sh | intro w1 sh); have F := sh.fx)
              | fail)
          clear d1 d2 d3
          go_roundw
          case rel => exact ⟨3, R1, rfl, by omega, HR1.out, sh.imp fun _ h => h.2⟩
          case measure => simp [intOf]
        · rw [show (56 - 8 * ((3 : Nat) : Int)) = 32 from rfl] at hv
          subst hv
          have HN := Lib.hid (DigP.tailB_next M 3)
          rw [show 2 ^ (56 - 8 * 3) = 4294967296 from rfl] at HN
          have d1 : (M : Int) / 4294967296 = ((M / 4294967296 : Nat) : Int) := by omega
          have d2 := DigP.by8 (M / 4294967296)
          have d3 := DigP.by8' (M / 4294967296)
          generalize UInt8.ofNat (M / 4294967296) = y at HN d2 d3
          generalize M / 4294967296 = mm at d1 d2 d3
          have F : True := trivial
          go_wp2_with (first
              | ((with_reducible refine Hp.atl_lit ?_ ?_); exact rfl; (refine Hp.wp_lit 1 (bcells [y]) Tryd.i_u8 Tryd.underlying51 sh rfl rfl (by omega) rfl ?_); clear sh; (try clear F); intro gl w1 sh; replace sh := sh.freeze1 (vs := bcells [y]) (fun i v h => by simpa using h); (have F := sh.fx); go_simp)
              | ((with_reducible refine Hp.atl_append 27 ?_ ?_); exact rfl; (refine Hp.wp_append (R := R) (H := [(b2, DigP.bA DigP.zero32, 23), (bs, #[.int .u32 (a.toNat : Int), .int .u32 (b.toNat : Int), .int .u32 (c.toNat : Int), .int .u32 (d.toNat : Int), .int .u32 (e.toNat : Int), .int .u32 (f.toNat : Int), .int .u32 (g.toNat : Int), .int .u32 (h.toNat : Int), .int .u64 (n : Int), .string (bstr r)], 64)]) (news := bcells [y]) Tryd.i_u8 Tryd.underlying51 (by decide) rfl (by decide) sh HR.out rfl rfl rfl sh.data.1 (fun h => by cases h) (Hp.ones_mem rfl) (by omega) ?_); clear sh; (try clear F); intro v1 R1 w1 sh hr; rw [DigP.bc_app, List.append_assoc, ← HN.out] at hr; obtain ⟨g3, cp3, rfl, -⟩ := hr.head (by omega); have HR1 := Lib.hid hr; clear hr; go_simp)
              | ((with_reducible first | refine Hp.wpl_box sh ?_ ?_ | refine Hp.wpa sh ?_ ?_ | refine Hp.atl_store ?_ ?_); exact rfl; (try (refine Hp.wsB sh ?_)); clear sh; (try clear F); go_simp; (first | intro b w1 sh | intro w1 sh); have F := sh.fx)
              | fail)
          clear d1 d2 d3
          go_roundw
          case rel => exact ⟨4, R1, rfl, by omega, HR1.out, sh.imp fun _ h => h.2⟩
          case measure => simp [intOf]
        · rw [show (56 - 8 * ((4 : Nat) : Int)) = 24 from rfl] at hv
          subst hv
          have HN := Lib.hid (DigP.tailB_next M 4)
          rw [show 2 ^ (56 - 8 * 4) = 16777216 from rfl] at HN
          have d1 : (M : Int) / 16777216 = ((M / 16777216 : Nat) : Int) := by omega
          have d2 := DigP.by8 (M / 16777216)
          have d3 := DigP.by8' (M / 16777216)
          generalize UInt8.ofNat (M / 16777216) = y at HN d2 d3
          generalize M / 16777216 = mm at d1 d2 d3
          have F : True := trivial
          go_wp2_with (first
              | ((with_reducible refine Hp.atl_lit ?_ ?_); exact rfl; (refine Hp.wp_lit 1 (bcells [y]) Tryd.i_u8 Tryd.underlying51 sh rfl rfl (by omega) rfl ?_); clear sh; (try clear F); intro gl w1 sh; replace sh := sh.freeze1 (vs := bcells [y]) (fun i v h => by simpa using h); (have F := sh.fx); go_simp)
              | ((with_reducible refine Hp.atl_append 27 ?_ ?_); exact rfl; (refine Hp.wp_append (R := R) (H := [(b2, DigP.bA DigP.zero32, 23), (bs, #[.int .u32 (a.toNat : Int), .int .u32 (b.toNat : Int), .int .u32 (c.toNat : Int), .int .u32 (d.toNat : Int), .int .u32 (e.toNat : Int), .int .u32 (f.toNat : Int), .int .u32 (g.toNat : Int), .int .u32 (h.toNat : Int), .int .u64 (n : Int), .string (bstr r)], 64)]) (news := bcells [y]) Tryd.i_u8 Tryd.underlying51 (by decide) rfl (by decide) sh HR.out rfl rfl rfl sh.data.1 (fun h => by cases h) (Hp.ones_mem rfl) (by omega) ?_); clear sh; (try clear F); intro v1 R1 w1 sh hr; rw [DigP.bc_app, List.append_assoc, ← HN.out] at hr; obtain ⟨g3, cp3, rfl, -⟩ := hr.head (by omega); have HR1 := Lib.hid hr; clear hr; go_simp)
              | ((with_reducible first | refine Hp.wpl_box sh ?_ ?_ | refine Hp.wpa sh ?_ ?_ | refine Hp.atl_store ?_ ?_); exact rfl; (try (refine Hp.wsB sh ?_)); clear sh; (try clear F); go_simp; (first | intro b w1 sh | intro w1 sh); have F := sh.fx)
              | fail)
          clear d1 d2 d3
          go_roundw
          case rel => exact ⟨5, R1, rfl, by omega, HR1.out, sh.imp fun _ h => h.2⟩
          case measure => simp [intOf]
        · rw [show (56 - 8 * ((5 : Nat) : Int)) = 16 from rfl] at hv
          subst hv
          have HN := Lib.hid (DigP.tailB_next M 5)
          rw [show 2 ^ (56 - 8 * 5) = 65536 from rfl] at HN
          have d1 : (M : Int) / 65536 = ((M / 65536 : Nat) : Int) := by omega
          have d2 := DigP.by8 (M / 65536)
          have d3 := DigP.by8' (M / 65536)
          generalize UInt8.ofNat (M / 65536) = y at HN d2 d3
          generalize M / 65536 = mm at d1 d2 d3
          have F : True := trivial
          go_wp2_with (first
              | ((with_reducible refine Hp.atl_lit ?_ ?_); exact rfl; (refine Hp.wp_lit 1 (bcells [y]) Tryd.i_u8 Tryd.underlying51 sh rfl rfl (by omega) rfl ?_); clear sh; (try clear F); intro gl w1 sh; replace sh := sh.freeze1 (vs := bcells [y]) (fun i v h => by simpa using h); (have F := sh.fx); go_simp)
              | ((with_reducible refine Hp.atl_append 27 ?_ ?_); exact rfl; (refine Hp.wp_append (R := R) (H := [(b2, DigP.bA DigP.zero32, 23), (bs, #[.int .u32 (a.toNat : Int), .int .u32 (b.toNat : Int), .int .u32 (c.toNat : Int), .int .u32 (d.toNat : Int), .int .u32 (e.toNat : Int), .int .u32 (f.toNat : Int), .int .u32 (g.toNat : Int), .int .u32 (h.toNat : Int), .int .u64 (n : Int), .string (bstr r)], 64)]) (news := bcells [y]) Tryd.i_u8 Tryd.underlying51 (by decide) rfl (by decide) sh HR.out rfl rfl rfl sh.data.1 (fun h => by cases h) (Hp.ones_mem rfl) (by omega) ?_); clear sh; (try clear F); intro v1 R1 w1 sh hr; rw [DigP.bc_app, List.append_assoc, ← HN.out] at hr; obtain ⟨g3, cp3, rfl, -⟩ := hr.head (by omega); have HR1 := Lib.hid hr; clear hr; go_simp)
              | ((with_reducible first | refine Hp.wpl_box sh ?_ ?_ | refine Hp.wpa sh ?_ ?_ | refine Hp.atl_store ?_ ?_); exact rfl; (try (refine Hp.wsB sh ?_)); clear sh; (try clear F); go_simp; (first | intro b w1 sh | intro w1 sh); have F := sh.fx)
              | fail)
          clear d1 d2 d3
          go_roundw
          case rel => exact ⟨6, R1, rfl, by omega, HR1.out, sh.imp fun _ h => h.2⟩
          case measure => simp [intOf]
        · rw [show (56 - 8 * ((6 : Nat) : Int)) = 8 from rfl] at hv
          subst hv
          have HN := Lib.hid (DigP.tailB_next M 6)
          rw [show 2 ^ (56 - 8 * 6) = 256 from rfl] at HN
          have d1 : (M : Int) / 256 = ((M / 256 : Nat) : Int) := by omega
          have d2 := DigP.by8 (M / 256)
          have d3 := DigP.by8' (M / 256)
          generalize UInt8.ofNat (M / 256) = y at HN d2 d3
          generalize M / 256 = mm at d1 d2 d3
          have F : True := trivial
          go_wp2_with (first
              | ((with_reducible refine Hp.atl_lit ?_ ?_); exact rfl; (refine Hp.wp_lit 1 (bcells [y]) Tryd.i_u8 Tryd.underlying51 sh rfl rfl (by omega) rfl ?_); clear sh; (try clear F); intro gl w1 sh; replace sh := sh.freeze1 (vs := bcells [y]) (fun i v h => by simpa using h); (have F := sh.fx); go_simp)
              | ((with_reducible refine Hp.atl_append 27 ?_ ?_); exact rfl; (refine Hp.wp_append (R := R) (H := [(b2, DigP.bA DigP.zero32, 23), (bs, #[.int .u32 (a.toNat : Int), .int .u32 (b.toNat : Int), .int .u32 (c.toNat : Int), .int .u32 (d.toNat : Int), .int .u32 (e.toNat : Int), .int .u32 (f.toNat : Int), .int .u32 (g.toNat : Int), .int .u32 (h.toNat : Int), .int .u64 (n : Int), .string (bstr r)], 64)]) (news := bcells [y]) Tryd.i_u8 Tryd.underlying51 (by decide) rfl (by decide) sh HR.out rfl rfl rfl sh.data.1 (fun h => by cases h) (Hp.ones_mem rfl) (by omega) ?_); clear sh; (try clear F); intro v1 R1 w1 sh hr; rw [DigP.bc_app, List.append_assoc, ← HN.out] at hr; obtain ⟨g3, cp3, rfl, -⟩ := hr.head (by omega); have HR1 := Lib.hid hr; clear hr; go_simp)
              | ((with_reducible first | refine Hp.wpl_box sh ?_ ?_ | refine Hp.wpa sh ?_ ?_ | refine Hp.atl_store ?_ ?_); exact rfl; (try (refine Hp.wsB sh ?_)); clear sh; (try clear F); go_simp; (first | intro b w1 sh | intro w1 sh); have F := sh.fx)
              | fail)
          clear d1 d2 d3
          go_roundw
          case rel => exact ⟨7, R1, rfl, by omega, HR1.out, sh.imp fun _ h => h.2⟩
          case measure => simp [intOf]
        · rw [show (56 - 8 * ((7 : Nat) : Int)) = 0 from rfl] at hv
          subst hv
          have HN := Lib.hid (DigP.tailB_next M 7)
          rw [show 2 ^ (56 - 8 * 7) = 1 from rfl] at HN
          have d1 : (M : Int) / 1 = ((M / 1 : Nat) : Int) := by omega
          have d2 := DigP.by8 (M / 1)
          have d3 := DigP.by8' (M / 1)
          generalize UInt8.ofNat (M / 1) = y at HN d2 d3
          rw [Nat.div_one] at d1 d2 d3
          have F : True := trivial
          go_wp2_with (first
              | ((with_reducible refine Hp.atl_lit ?_ ?_); exact rfl; (refine Hp.wp_lit 1 (bcells [y]) Tryd.i_u8 Tryd.underlying51 sh rfl rfl (by omega) rfl ?_); clear sh; (try clear F); intro gl w1 sh; replace sh := sh.freeze1 (vs := bcells [y]) (fun i v h => by simpa using h); (have F := sh.fx); go_simp)
              | ((with_reducible refine Hp.atl_append 27 ?_ ?_); exact rfl; (refine Hp.wp_append (R := R) (H := [(b2, DigP.bA DigP.zero32, 23), (bs, #[.int .u32 (a.toNat : Int), .int .u32 (b.toNat : Int), .int .u32 (c.toNat : Int), .int .u32 (d.toNat : Int), .int .u32 (e.toNat : Int), .int .u32 (f.toNat : Int), .int .u32 (g.toNat : Int), .int .u32 (h.toNat : Int), .int .u64 (n : Int), .string (bstr r)], 64)]) (news := bcells [y]) Tryd.i_u8 Tryd.underlying51 (by decide) rfl (by decide) sh HR.out rfl rfl rfl sh.data.1 (fun h => by cases h) (Hp.ones_mem rfl) (by omega) ?_); clear sh; (try clear F); intro v1 R1 w1 sh hr; rw [DigP.bc_app, List.append_assoc, ← HN.out] at hr; obtain ⟨g3, cp3, rfl, -⟩ := hr.head (by omega); have HR1 := Lib.hid hr; clear hr; go_simp)
              | ((with_reducible first | refine Hp.wpl_box sh ?_ ?_ | refine Hp.wpa sh ?_ ?_ | refine Hp.atl_store ?_ ?_); exact rfl; (try (refine Hp.wsB sh ?_)); clear sh; (try clear F); go_simp; (first | intro b w1 sh | intro w1 sh); have F := sh.fx)
              | fail)
          clear d1 d2 d3
          go_roundw
          case rel => exact ⟨8, R1, rfl, by omega, HR1.out, sh.imp fun _ h => h.2⟩
          case measure => simp [intOf]
        · rw [show (56 - 8 * ((8 : Nat) : Int)) = -8 from rfl] at hv
          subst hv
          replace sh := sh.freeze HR.out
          have hcv := Hp.conv_rdv (P := Tryd.prog) (n := m + 8) (cap := cp2) sh.data.1 (by rw [List.length_append, DigP.tailA_length (by omega)]; rfl) Tryd.underlying51 Tryd.underlying5 Tryd.underlying9
          have F := sh.fx
          go_wp2_with (first
              | ((with_reducible first | refine Hp.wpl_box sh ?_ ?_ | refine Hp.wpa sh ?_ ?_ | refine Hp.atl_store ?_ ?_); exact rfl; (try (refine Hp.wsB sh ?_)); clear sh; (try clear F); go_simp; (first | intro b w1 sh | intro w1 sh); have F := sh.fx)
              | fail)
          go_fit (K1.out _ sh.data.2)
          rintro e w1 ⟨rfl, hb⟩
          replace sh := sh.call hb; clear hb; (try clear F); have F := sh.fx
          clear hcv
          have tok_b3 : True := trivial
          go_wp2_with (first
              | ((with_reducible first | refine Hp.wpl_box sh ?_ ?_ | refine Hp.wpa sh ?_ ?_ | refine Hp.atl_store ?_ ?_); exact rfl; (try (refine Hp.wsB sh ?_)); clear sh; (try clear F); go_simp; (first | (have tok := tok_b3; clear tok tok_b3; intro b3 w1 sh) | intro b w1 sh | intro w1 sh); have F := sh.fx)
              | fail)
          go_loopw [38] (fun i wr => ∃ k : Nat, i = .int .i64 k ∧ k ≤ 32 ∧ Hp.Sh w wr [(b3, DigP.bA (DigP.pad32 ((DigP.bytesOf (x0, x1, x2, x3, x4, x5, x6, x7)).take k)), 23), (b2, DigP.bA DigP.zero32, 23), (bs, (DigP.stV ((x0, x1, x2, x3, x4, x5, x6, x7), n2, r2)).toArray, 64)] (fun W => Hp.RdV W (some ⟨0, 0, none⟩) (DigP.wds DigP.consts))) (fun i _ => 32 - (intOf i).toNat)
          case atStart => exact ⟨0, rfl, by omega, by rw [show DigP.pad32 (List.take 0 (DigP.bytesOf (x0, x1, x2, x3, x4, x5, x6, x7))) = DigP.zero32 from rfl]; exact sh.imp fun _ h => h.2⟩
          case round =>
            clear sh F HR
            obtain ⟨k, rfl, hk, sh⟩ := hrel
            have HL := Lib.hid (DigP.bytesOf_length (x0, x1, x2, x3, x4, x5, x6, x7))
            by_cases hlt : k < 32
            · have hlI : (k : Int) < 32 := by omega
              have HN := Lib.hid (DigP.bytesOf_next (x0, x1, x2, x3, x4, x5, x6, x7) hlt)
              have hcs := Hp.Sh.at sh (i := 2) rfl (j := k / 4) (DigP.nth10 ((x0, x1, x2, x3, x4, x5, x6, x7), n2, r2) (k / 4) (by omega))
              rw [show (((x0, x1, x2, x3, x4, x5, x6, x7), n2, r2) : DigP.St).1 = (x0, x1, x2, x3, x4, x5, x6, x7) from rfl] at hcs
              generalize DigP.nthW (x0, x1, x2, x3, x4, x5, x6, x7) (k / 4) = x at HN hcs
              have e0 : k / 4 < 8 := by omega
              have e1 : (k : Int) / 4 = ((k / 4 : Nat) : Int) := by omega
              have e2 : (k : Int).tdiv 4 = ((k / 4 : Nat) : Int) := by rw [Int.tdiv_eq_ediv_of_nonneg (by omega)]; exact e1
              have e4 : ((k / 4 : Nat) : Int) < 8 := by omega
              have e3 : (k : Int) % 4 = ((k % 4 : Nat) : Int) := by omega
              have e5 : (k : Int).tmod 4 = ((k % 4 : Nat) : Int) := by rw [Int.tmod_eq_emod_of_nonneg (by omega)]; exact e3
              generalize k / 4 = q at *
              have HLT := Lib.hid (show ((DigP.bytesOf (x0, x1, x2, x3, x4, x5, x6, x7)).take k).length = k by rw [List.length_take, HL.out]; omega)
              have hsz : k + 1 ≤ (DigP.bA (DigP.pad32 ((DigP.bytesOf (x0, x1, x2, x3, x4, x5, x6, x7)).take k))).size := by rw [DigP.bA_size, DigP.pad32_length (by rw [HLT.out]; omega)]; omega
              have hs4 : k % 4 = 0 ∨ k % 4 = 1 ∨ k % 4 = 2 ∨ k % 4 = 3 := by omega
              rcases hs4 with hs4 | hs4 | hs4 | hs4
              · rw [hs4] at e3 e5 HN
                rw [show 2 ^ (24 - 8 * 0) = 16777216 from rfl] at HN
                have d1 : (x.toNat : Int) / 16777216 = ((x.toNat / 16777216 : Nat) : Int) := by omega
                have d2 := DigP.by8 (x.toNat / 16777216)
                have d3 := DigP.by8' (x.toNat / 16777216)
                generalize UInt8.ofNat (x.toNat / 16777216) = y at HN d2 d3
                generalize x.toNat / 16777216 = mm at d1 d2 d3
                have HP := Lib.hid (show (DigP.bA (DigP.pad32 ((DigP.bytesOf (x0, x1, x2, x3, x4, x5, x6, x7)).take k))).setIfInBounds k (.int .u8 (y.toNat : Int)) = DigP.bA (DigP.pad32 ((DigP.bytesOf (x0, x1, x2, x3, x4, x5, x6, x7)).take (k + 1))) by rw [DigP.bA_set, HN.out]; have := DigP.pad32_set (l := (DigP.bytesOf (x0, x1, x2, x3, x4, x5, x6, x7)).take k) y (by rw [HLT.out]; omega); rw [HLT.out] at this; rw [this])
                have F : True := trivial
                go_wp2_with (first
                    | ((with_reducible refine Hp.atl_store ?_ ?_); exact rfl; (refine Hp.wp_store 0 sh rfl rfl rfl rfl (by kernel_rfl) (hsz) rfl ?_); clear sh; (try clear F); go_simp; intro w1 sh; rw [HP.out] at sh; have F := sh.fx)
                    | ((with_reducible first | refine Hp.wpl_box sh ?_ ?_ | refine Hp.wpa sh ?_ ?_ | refine Hp.atl_store ?_ ?_); exact rfl; (try (refine Hp.wsB sh ?_)); clear sh; (try clear F); go_simp; (first | intro b w1 sh | intro w1 sh); have F := sh.fx)
                    | fail)
                clear d1 d2 d3 e1 e2 e3 e4 e5
                go_roundw
                case rel => exact ⟨k + 1, by go_num, by omega, sh⟩
                case measure => simp [intOf]; omega
              · rw [hs4] at e3 e5 HN
                rw [show 2 ^ (24 - 8 * 1) = 65536 from rfl] at HN
                have d1 : (x.toNat : Int) / 65536 = ((x.toNat / 65536 : Nat) : Int) := by omega
                have d2 := DigP.by8 (x.toNat / 65536)
                have d3 := DigP.by8' (x.toNat / 65536)
                generalize UInt8.ofNat (x.toNat / 65536) = y at HN d2 d3
                generalize x.toNat / 65536 = mm at d1 d2 d3
                have HP := Lib.hid (show (DigP.bA (DigP.pad32 ((DigP.bytesOf (x0, x1, x2, x3, x4, x5, x6, x7)).take k))).setIfInBounds k (.int .u8 (y.toNat : Int)) = DigP.bA (DigP.pad32 ((DigP.bytesOf (x0, x1, x2, x3, x4, x5, x6, x7)).take (k + 1))) by rw [DigP.bA_set, HN.out]; have := DigP.pad32_set (l := (DigP.bytesOf (x0, x1, x2, x3, x4, x5, x6, x7)).take k) y (by rw [HLT.out]; omega); rw [HLT.out] at this; rw [this])
                have F : True := trivial
                go_wp2_with (first
                    | ((with_reducible refine Hp.atl_store ?_ ?_); exact rfl; (refine Hp.wp_store 0 sh rfl rfl rfl rfl (by kernel_rfl) (hsz) rfl ?_); clear sh; (try clear F); go_simp; intro w1 sh; rw [HP.out] at sh; have F := sh.fx)
                    | ((with_reducible first | refine Hp.wpl_box sh ?_ ?_ | refine Hp.wpa sh ?_ ?_ | refine Hp.atl_store ?_ ?_); exact rfl; (try (refine Hp.wsB sh ?_)); clear sh; (try clear F); go_simp; (first | intro b w1 sh | intro w1 sh); have F := sh.fx)
                    | fail)
                clear d1 d2 d3 e1 e2 e3 e4 e5
                go_roundw
                case rel => exact ⟨k + 1, by go_num, by omega, sh⟩
                case measure => simp [intOf]; omega
              · rw [hs4] at e3 e5 HN
                rw [show 2 ^ (24 - 8 * 2) = 256 from rfl] at HN
                have d1 : (x.toNat : Int) / 256 = ((x.toNat / 256 : Nat) : Int) := by omega
                have d2 := DigP.by8 (x.toNat / 256)
                have d3 := DigP.by8' (x.toNat / 256)
                generalize UInt8.ofNat (x.toNat / 256) = y at HN d2 d3
                generalize x.toNat / 256 = mm at d1 d2 d3
                have HP := Lib.hid (show (DigP.bA (DigP.pad32 ((DigP.bytesOf (x0, x1, x2, x3, x4, x5, x6, x7)).take k))).setIfInBounds k (.int .u8 (y.toNat : Int)) = DigP.bA (DigP.pad32 ((DigP.bytesOf (x0, x1, x2, x3, x4, x5, x6, x7)).take (k + 1))) by rw [DigP.bA_set, HN.out]; have := DigP.pad32_set (l := (DigP.bytesOf (x0, x1, x2, x3, x4, x5, x6, x7)).take k) y (by rw [HLT.out]; omega); rw [HLT.out] at this; rw [this])
                have F : True := trivial
                go_wp2_with (first
                    | ((with_reducible refine Hp.atl_store ?_ ?_); exact rfl; (refine Hp.wp_store 0 sh rfl rfl rfl rfl (by kernel_rfl) (hsz) rfl ?_); clear sh; (try clear F); go_simp; intro w1 sh; rw [HP.out] at sh; have F := sh.fx)
                    | ((with_reducible first | refine Hp.wpl_box sh ?_ ?_ | refine Hp.wpa sh ?_ ?_ | refine Hp.atl_store ?_ ?_); exact rfl; (try (refine Hp.wsB sh ?_)); clear sh; (try clear F); go_simp; (first | intro b w1 sh | intro w1 sh); have F := sh.fx)
                    | fail)
                clear d1 d2 d3 e1 e2 e3 e4 e5
                go_roundw
                case rel => exact ⟨k + 1, by go_num, by omega, sh⟩
                case measure => simp [intOf]; omega
              · rw [hs4] at e3 e5 HN
                rw [show 2 ^ (24 - 8 * 3) = 1 from rfl] at HN
                have d1 : (x.toNat : Int) / 1 = ((x.toNat / 1 : Nat) : Int) := by omega
                have d2 := DigP.by8 (x.toNat / 1)
                have d3 := DigP.by8' (x.toNat / 1)
                generalize UInt8.ofNat (x.toNat / 1) = y at HN d2 d3
                rw [Nat.div_one] at d1 d2 d3
                have HP := Lib.hid (show (DigP.bA (DigP.pad32 ((DigP.bytesOf (x0, x1, x2, x3, x4, x5, x6, x7)).take k))).setIfInBounds k (.int .u8 (y.toNat : Int)) = DigP.bA (DigP.pad32 ((DigP.bytesOf (x0, x1, x2, x3, x4, x5, x6, x7)).take (k + 1))) by rw [DigP.bA_set, HN.out]; have := DigP.pad32_set (l := (DigP.bytesOf (x0, x1, x2, x3, x4, x5, x6, x7)).take k) y (by rw [HLT.out]; omega); rw [HLT.out] at this; rw [this])
                have F : True := trivial
                go_wp2_with (first
                    | ((with_reducible refine Hp.atl_store ?_ ?_); exact rfl; (refine Hp.wp_store 0 sh rfl rfl rfl rfl (by kernel_rfl) (hsz) rfl ?_); clear sh; (try clear F); go_simp; intro w1 sh; rw [HP.out] at sh; have F := sh.fx)
                    | ((with_reducible first | refine Hp.wpl_box sh ?_ ?_ | refine Hp.wpa sh ?_ ?_ | refine Hp.atl_store ?_ ?_); exact rfl; (try (refine Hp.wsB sh ?_)); clear sh; (try clear F); go_simp; (first | intro b w1 sh | intro w1 sh); have F := sh.fx)
                    | fail)
                clear d1 d2 d3 e1 e2 e3 e4 e5
                go_roundw
                case rel => exact ⟨k + 1, by go_num, by omega, sh⟩
                case measure => simp [intOf]; omega
            · obtain rfl : k = 32 := by omega
              rw [List.take_of_length_le (by rw [HL.out]; omega), DigP.pad32_full HL.out] at sh
              have HLI := Lib.hid (show (Tryd.prog.info? 23).map (·.size) = some (DigP.bA (DigP.bytesOf (x0, x1, x2, x3, x4, x5, x6, x7))).size by rw [DigP.bA_size, HL.out]; kernel_rfl)
              have HSZ := Lib.hid (show (DigP.bA (DigP.bytesOf (x0, x1, x2, x3, x4, x5, x6, x7))).size = (DigP.bA DigP.zero32).size by rw [DigP.bA_size, HL.out, DigP.bA_size]; rfl)
              have HIF := Lib.hid (show (Tryd.prog.info? 23).map (·.size) = some (DigP.bA DigP.zero32).size by kernel_rfl)
              have HON := Lib.hid (DigP.ones_bcells (DigP.bytesOf (x0, x1, x2, x3, x4, x5, x6, x7)))
              generalize DigP.bytesOf (x0, x1, x2, x3, x4, x5, x6, x7) = dd at sh HLI HSZ HON HX
              have F : True := trivial
              go_wp2_with (first
                  | ((with_reducible refine Hp.atl_load 23 ?_); (refine Hp.wpl_load_all 0 sh rfl rfl rfl Tryd.underlying23 rfl (HLI.out) ?_); go_simp)
                  | ((with_reducible refine Hp.atl_store ?_ ?_); exact rfl; (refine Hp.wp_store_all 1 sh rfl rfl rfl HSZ.out HIF.out HON.out ?_); clear sh; (try clear F); intro w1 sh; have F := sh.fx)
                  | ((with_reducible first | refine Hp.wpl_box sh ?_ ?_ | refine Hp.wpa sh ?_ ?_ | refine Hp.atl_store ?_ ?_); exact rfl; (try (refine Hp.wsB sh ?_)); clear sh; (try clear F); go_simp; (first | intro b w1 sh | intro w1 sh); have F := sh.fx)
                  | fail)
              exact bodyPost_ret (Hp.res_c rfl rfl (sh.load 1 rfl (by kernel_rfl) HLI.out)) rfl ⟨DigP.ofV _ _ HX.out.symm, sh.below⟩
    · have ht : (r.length + m) % 64 ≠ 56 := fun q => hlt ((HTT.out m hm1 hm2).1 q)
      generalize (r.length + m) % 64 = z at q1 q2 ht
      have z1 : ((z : Int) == 56) = false := by simp; omega
      have z2 : ((z : Int) != 56) = true := by simp; omega
      have hm3 : m + 1 ≤ 1 + T := by omega
      have HN := Lib.hid (DigP.tailA_next hm1)
      clear hlt ht
      go_wp2_with (first
          | ((with_reducible refine Hp.atl_lit ?_ ?_); exact rfl; (refine Hp.wp_lit 1 (bcells [0]) Tryd.i_u8 Tryd.underlying51 sh rfl rfl (by omega) rfl ?_); clear sh; (try clear F); intro gl w1 sh; replace sh := sh.freeze1 (vs := bcells [0]) (fun i v h => by simpa using h); (have F := sh.fx); go_simp)
          | ((with_reducible refine Hp.atl_append 17 ?_ ?_); exact rfl; (refine Hp.wp_append (R := R) (H := [(b2, DigP.bA DigP.zero32, 23), (bs, #[.int .u32 (a.toNat : Int), .int .u32 (b.toNat : Int), .int .u32 (c.toNat : Int), .int .u32 (d.toNat : Int), .int .u32 (e.toNat : Int), .int .u32 (f.toNat : Int), .int .u32 (g.toNat : Int), .int .u32 (h.toNat : Int), .int .u64 (n : Int), .string (bstr r)], 64)]) (news := bcells [0]) Tryd.i_u8 Tryd.underlying51 (by decide) rfl (by decide) sh HR.out rfl rfl rfl sh.data.1 (fun h => by cases h) (Hp.ones_mem rfl) (by omega) ?_); clear sh; (try clear F); intro v1 R1 w1 sh hr; rw [DigP.bc_app, HN.out] at hr; obtain ⟨g2, cp2, rfl, -⟩ := hr.head (by omega); have HR1 := Lib.hid hr; clear hr; go_simp)
          | ((with_reducible first | refine Hp.wpl_box sh ?_ ?_ | refine Hp.wpa sh ?_ ?_ | refine Hp.atl_store ?_ ?_); exact rfl; (try (refine Hp.wsB sh ?_)); clear sh; (try clear F); go_simp; (first | intro b w1 sh | intro w1 sh); have F := sh.fx)
          | fail)
      clear q1 q2 z1 z2
      go_roundw
      case rel => exact ⟨m + 1, R1, by omega, hm3, HR1.out, sh.imp fun _ h => h.2⟩
      case measure => show 65 - (m + 1) < 65 - m; omega

set_option maxHeartbeats 8000000 in
set_option maxRecDepth 100000 in
theorem drend (v : DigP.V8) (n : Nat) (hn : n < 18446744073709551616) (r : List UInt8) (hr : r.length ≤ 1048576) (w : World) : Calls Tryd.prog 52 #[.agg (DigP.stV (v, n, r)).toArray] w fun e w' => e = .returned (.agg (DigP.bA (DigP.fin (v, n, r)))) ∧ Below w.heap.size w w' := by
  have sh := (Hp.Sh.start (fun _ _ => trivial) : Hp.Sh w w [] (fun W => True))
  obtain ⟨a, b, c, d, e, f, g, h⟩ := v
  have K0 := Lib.hid (fun W => dradd (a, b, c, d, e, f, g, h) n hn r (DigP.tail ((a, b, c, d, e, f, g, h), n, r)) hr (by rw [DigP.tail_eq, List.length_append, DigP.tailA_length (by omega)]; have := DigP.tail0_lt r.length; simp [DigP.tailB]; omega) W)
  obtain ⟨⟨⟨x0, x1, x2, x3, x4, x5, x6, x7⟩, n2, r2⟩, hx⟩ : ∃ x, DigP.add ((a, b, c, d, e, f, g, h), n, r) (DigP.tail ((a, b, c, d, e, f, g, h), n, r)) = x := ⟨_, rfl⟩
  rw [hx] at K0
  have K1 := Lib.hid (show ∀ W, Calls Tryd.prog 53 #[.agg #[.int .u32 (a.toNat : Int), .int .u32 (b.toNat : Int), .int .u32 (c.toNat : Int), .int .u32 (d.toNat : Int), .int .u32 (e.toNat : Int), .int .u32 (f.toNat : Int), .int .u32 (g.toNat : Int), .int .u32 (h.toNat : Int), .int .u64 (n : Int), .string (bstr r)], .string (bstr (DigP.tail ((a, b, c, d, e, f, g, h), n, r)))] W fun e w' => e = .returned (.agg #[.int .u32 (x0.toNat : Int), .int .u32 (x1.toNat : Int), .int .u32 (x2.toNat : Int), .int .u32 (x3.toNat : Int), .int .u32 (x4.toNat : Int), .int .u32 (x5.toNat : Int), .int .u32 (x6.toNat : Int), .int .u32 (x7.toNat : Int), .int .u64 (n2 : Int), .string (bstr r2)]) ∧ Below W.heap.size W w' from K0.out)
  have HX := Lib.hid (show DigP.fin ((a, b, c, d, e, f, g, h), n, r) = DigP.bytesOf (x0, x1, x2, x3, x4, x5, x6, x7) by unfold DigP.fin; rw [hx])
  rw [DigP.tail_eq] at K1
  clear K0 hx
  have s1 : (bstr r).size = r.length := bstr_size r
  have HT0 := DigP.tail0_lt r.length
  have m1 := DigP.wm8 n
  have m2 := DigP.wm8' n
  have m3 := DigP.wm8a n
  have m4 := DigP.wm8b n
  have HTT := Lib.hid (fun m => DigP.tail_test (r := r.length) (m := m))
  generalize hM : n * 8 % 18446744073709551616 = M at m1 m2 m3 m4 K1
  have HM : M < 18446744073709551616 := by omega
  clear hM
  have HMS := Lib.hid (And.intro m1 (And.intro m2 (And.intro m3 m4)))
  clear m1 m2 m3 m4
  generalize DigP.tail0 r.length = T at HT0 HTT K1
  show Calls _ _ #[.agg #[.int .u32 (a.toNat : Int), .int .u32 (b.toNat : Int), .int .u32 (c.toNat : Int), .int .u32 (d.toNat : Int), .int .u32 (e.toNat : Int), .int .u32 (f.toNat : Int), .int .u32 (g.toNat : Int), .int .u32 (h.toNat : Int), .int .u64 (n : Int), .string (bstr r)]] _ _
  go_enter Tryd.func52, Tryd.ntmps52
  have F := sh.fx
  obtain ⟨m1, m2, m3, m4⟩ := HMS.out
  have tok_bs : True := trivial
  have tok_b2 : True := trivial
  go_wp2_with (first
      | ((with_reducible refine Hp.atl_lit ?_ ?_); exact rfl; (refine Hp.wp_lit 1 (bcells [128]) Tryd.i_u8 Tryd.underlying51 sh rfl rfl (by omega) rfl ?_); clear sh; (try clear F); intro gl w1 sh; (have F := sh.fx); go_simp)
      | ((with_reducible first | refine Hp.wpl_box sh ?_ ?_ | refine Hp.wpa sh ?_ ?_ | refine Hp.atl_store ?_ ?_); exact rfl; (try (refine Hp.wsB sh ?_)); clear sh; (try clear F); go_simp; (first | (have tok := tok_bs; clear tok tok_bs; intro bs w1 sh) | (have tok := tok_b2; clear tok tok_b2; intro b2 w1 sh) | intro b w1 sh | intro w1 sh); have F := sh.fx)
      | fail)
  clear m1 m2 m3 m4
  go_loopw [4] (fun v wr => ∃ (m : Nat) (R : List Hp.Blk), 1 ≤ m ∧ m ≤ 1 + T ∧ Hid (Hp.RowIs 5 1 v m (bcells (DigP.tailA m)) R) ∧ Hp.Sh w wr (R ++ [(b2, DigP.bA DigP.zero32, 23), (bs, #[.int .u32 (a.toNat : Int), .int .u32 (b.toNat : Int), .int .u32 (c.toNat : Int), .int .u32 (d.toNat : Int), .int .u32 (e.toNat : Int), .int .u32 (f.toNat : Int), .int .u32 (g.toNat : Int), .int .u32 (h.toNat : Int), .int .u64 (n : Int), .string (bstr r)], 64)]) (fun W => True)) (fun v _ => match v with | .slice _ n _ => 65 - n | _ => 0)
  case atStart => exact ⟨1, [(_, _, 5)], by omega, by omega, Hp.row_full (n := 1) (by decide) rfl, sh⟩
  case round =>
    clear sh F
    obtain ⟨m, R, hm1, hm2, HR, sh⟩ := hrel
    obtain ⟨g1, cp, rfl, -⟩ := HR.out.head (by omega)
    have F := (Hp.Sh.dropA sh).facts; (try simp only [Hp.Facts, Hp.CellsAt, Nat.reduceAdd, Hp.c1, Hp.c2] at F)
    have q1 : ((r.length : Int) + (m : Int)) % 64 = (((r.length + m) % 64 : Nat) : Int) := by omega
    have q2 : ((r.length : Int) + (m : Int)).tmod 64 = (((r.length + m) % 64 : Nat) : Int) := by rw [Int.tmod_eq_emod_of_nonneg (by omega)]; exact q1
    by_cases hlt : m = 1 + T
    · have ht : (r.length + m) % 64 = 56 := (HTT.out m hm1 hm2).2 hlt
      rw [ht] at q1 q2
      rw [show 1 + T = m from hlt.symm] at K1
      have hmT : m ≤ 64 := by omega
      clear hlt ht hm2
      obtain ⟨m1, m2, m3, m4⟩ := HMS.out
      go_wp2_with (first
          | ((with_reducible first | refine Hp.wpl_box sh ?_ ?_ | refine Hp.wpa sh ?_ ?_ | refine Hp.atl_store ?_ ?_); exact rfl; (try (refine Hp.wsB sh ?_)); clear sh; (try clear F); go_simp; (first | intro b w1 sh | intro w1 sh); have F := sh.fx)
          | fail)
      clear q1 q2 m1 m2 m3 m4
      go_loopw [4, 5] (fun v i wr => ∃ (j : Nat) (R : List Hp.Blk), i = .int .i64 (7 - 1 * (j : Int)) ∧ j ≤ 8 ∧ Hid (Hp.RowIs 5 1 v (m + j) (bcells (DigP.tailA m ++ DigP.tailB M j)) R) ∧ Hp.Sh w wr (R ++ [(b2, DigP.bA DigP.zero32, 23), (bs, #[.int .u32 (a.toNat : Int), .int .u32 (b.toNat : Int), .int .u32 (c.toNat : Int), .int .u32 (d.toNat : Int), .int .u32 (e.toNat : Int), .int .u32 (f.toNat : Int), .int .u32 (g.toNat : Int), .int .u32 (h.toNat : Int), .int .u64 (n : Int), .string (bstr r)], 64)]) (fun W => True)) (fun _ i _ => (intOf i + 8).toNat)
      case atStart => exact ⟨0, R, rfl, by omega, (Lib.hid (by simpa [DigP.tailB] using HR.out)), sh⟩
      case round =>
        clear sh F HR
        obtain ⟨j, R, hv, hj, HR, sh⟩ := hrel
        obtain ⟨g2, cp2, rfl, -⟩ := HR.out.head (by omega)
        have hj9 : j = 0 ∨ j = 1 ∨ j = 2 ∨ j = 3 ∨ j = 4 ∨ j = 5 ∨ j = 6 ∨ j = 7 ∨ j = 8 := by omega
        rcases hj9 with rfl | rfl | rfl | rfl | rfl | rfl | rfl | rfl | rfl
        · rw [show (7 - 1 * ((0 : Nat) : Int)) = 7 from rfl] at hv
          subst hv
          have HN := Lib.hid (DigP.tailB_next M 0)
          rw [show 2 ^ (56 - 8 * 0) = 72057594037927936 from rfl] at HN
          have d1 : (M : Int) / 72057594037927936 = ((M / 72057594037927936 : Nat) : Int) := by omega
          have d2 := DigP.by8 (M / 72057594037927936)
          have d3 := DigP.by8' (M / 72057594037927936)
          generalize UInt8.ofNat (M / 72057594037927936) = y at HN d2 d3
          generalize M / 72057594037927936 = mm at d1 d2 d3
          have F : True := trivial
          go_wp2_with (first
              | ((with_reducible refine Hp.atl_lit ?_ ?_); exact rfl; (refine Hp.wp_lit 1 (bcells [y]) Tryd.i_u8 Tryd.underlying51 sh rfl rfl (by omega) rfl ?_); clear sh; (try clear F); intro gl w1 sh; replace sh := sh.freeze1 (vs := bcells [y]) (fun i v h => by simpa using h); (have F := sh.fx); go_simp)
              | ((with_reducible refine Hp.atl_append 27 ?_ ?_); exact rfl; (refine Hp.wp_append (R := R) (H := [(b2, DigP.bA DigP.zero32, 23), (bs, #[.int .u32 (a.toNat : Int), .int .u32 (b.toNat : Int), .int .u32 (c.toNat : Int), .int .u32 (d.toNat : Int), .int .u32 (e.toNat : Int), .int .u32 (f.toNat : Int), .int .u32 (g.toNat : Int), .int .u32 (h.toNat : Int), .int .u64 (n : Int), .string (bstr r)], 64)]) (news := bcells [y]) Tryd.i_u8 Tryd.underlying51 (by decide) rfl (by decide) sh HR.out rfl rfl rfl sh.data.1 (fun h => by cases h) (Hp.ones_mem rfl) (by omega) ?_); clear sh; (try clear F); intro v1 R1 w1 sh hr; rw [DigP.bc_app, List.append_assoc, ← HN.out] at hr; obtain ⟨g3, cp3, rfl, -⟩ := hr.head (by omega); have HR1 := Lib.hid hr; clear hr; go_simp)
              | ((with_reducible first | refine Hp.wpl_box sh ?_ ?_ | refine Hp.wpa sh ?_ ?_ | refine Hp.atl_store ?_ ?_); exact rfl; (try (refine Hp.wsB sh ?_)); clear sh; (try clear F); go_simp; (first | intro b w1 sh | intro w1 sh); have F := sh.fx)
              | fail)
          clear d1 d2 d3
          go_roundw
          case rel => exact ⟨1, R1, rfl, by omega, HR1.out, sh.imp fun _ _ => trivial⟩
          case measure => simp [intOf]
        · rw [show (7 - 1 * ((1 : Nat) : Int)) = 6 from rfl] at hv
          subst hv
          have HN := Lib.hid (DigP.tailB_next M 1)
          rw [show 2 ^ (56 - 8 * 1) = 281474976710656 from rfl] at HN
          have d1 : (M : Int) / 281474976710656 = ((M / 281474976710656 : Nat) : Int) := by omega
          have d2 := DigP.by8 (M / 281474976710656)
          have d3 := DigP.by8' (M / 281474976710656)
          generalize UInt8.ofNat (M / 281474976710656) = y at HN d2 d3
          generalize M / 281474976710656 = mm at d1 d2 d3
          have F : True := trivial
          go_wp2_with (first
              | ((with_reducible refine Hp.atl_lit ?_ ?_); exact rfl; (refine Hp.wp_lit 1 (bcells [y]) Tryd.i_u8 Tryd.underlying51 sh rfl rfl (by omega) rfl ?_); clear sh; (try clear F); intro gl w1 sh; replace sh := sh.freeze1 (vs := bcells [y]) (fun i v h => by simpa using h); (have F := sh.fx); go_simp)
              | ((with_reducible refine Hp.atl_append 27 ?_ ?_); exact rfl; (refine Hp.wp_append (R := R) (H := [(b2, DigP.bA DigP.zero32, 23), (bs, #[.int .u32 (a.toNat : Int), .int .u32 (b.toNat : Int), .int .u32 (c.toNat : Int), .int .u32 (d.toNat : Int), .int .u32 (e.toNat : Int), .int .u32 (f.toNat : Int), .int .u32 (g.toNat : Int), .int .u32 (h.toNat : Int), .int .u64 (n : Int), .string (bstr r)], 64)]) (news := bcells [y]) Tryd.i_u8 Tryd.underlying51 (by decide) rfl (by decide) sh HR.out rfl rfl rfl sh.data.1 (fun h => by cases h) (Hp.ones_mem rfl) (by omega) ?_); clear sh; (try clear F); intro v1 R1 w1 sh hr; rw [DigP.bc_app, List.append_assoc, ← HN.out] at hr; obtain ⟨g3, cp3, rfl, -⟩ := hr.head (by omega); have HR1 := Lib.hid hr; clear hr; go_simp)
              | ((with_reducible first | refine Hp.wpl_box sh ?_ ?_ | refine Hp.wpa sh ?_ ?_ | refine Hp.atl_store ?_ ?_); exact rfl; (try (refine Hp.wsB sh ?_)); clear sh; (try clear F); go_simp; (first | intro b w1 sh | intro w1 sh); have F := sh.fx)
              | fail)
          clear d1 d2 d3
          go_roundw
          case rel => exact ⟨2, R1, rfl, by omega, HR1.out, sh.imp fun _ _ => trivial⟩
          case measure => simp [intOf]
        · rw [show (7 - 1 * ((2 : Nat) : Int)) = 5 from rfl] at hv
          subst hv
          have HN := Lib.hid (DigP.tailB_next M 2)
          rw [show 2 ^ (56 - 8 * 2) = 1099511627776 from rfl] at HN
          have d1 : (M : Int) / 1099511627776 = ((M / 1099511627776 : Nat) : Int) := by omega
          have d2 := DigP.by8 (M / 1099511627776)
          have d3 := DigP.by8' (M / 1099511627776)
          generalize UInt8.ofNat (M / 1099511627776) = y at HN d2 d3
          generalize M / 1099511627776 = mm at d1 d2 d3
          have F : True := trivial
          go_wp2_with (first
              | ((with_reducible refine Hp.atl_lit ?_ ?_); exact rfl; (refine Hp.wp_lit 1 (bcells [y]) Tryd.i_u8 Tryd.underlying51 sh rfl rfl (by omega) rfl ?_); clear sh; (try clear F); intro gl w1 sh; replace sh := sh.freeze1 (vs := bcells [y]) (fun i v h => by simpa using h); (have F := sh.fx); go_simp)
              | ((with_reducible refine Hp.atl_append 27 ?_ ?_); exact rfl; (refine Hp.wp_append (R := R) (H := [(b2, DigP.bA DigP.zero32, 23), (bs, #[.int .u32 (a.toNat : Int), .int .u32 (b.toNat : Int), .int .u32 (c.toNat : Int), .int .u32 (d.toNat : Int), .int .u32 (e.toNat : Int), .int .u32 (f.toNat : Int), .int .u32 (g.toNat : Int), .int .u32 (h.toNat : Int), .int .u64 (n : Int), .string (bstr r)], 64)]) (news := bcells [y]) Tryd.i_u8 Tryd.underlying51 (by decide) rfl (by decide) sh HR.out rfl rfl rfl sh.data.1 (fun h => by cases h) (Hp.ones_mem rfl) (by omega) ?_); clear sh; (try clear F); intro v1 R1 w1 sh hr; rw [DigP.bc_app, List.append_assoc, ← HN.out] at hr; obtain ⟨g3, cp3, rfl, -⟩ := hr.head (by omega); have HR1 := Lib.hid hr; clear hr; go_simp)
              | ((with_reducible first | refine Hp.wpl_box sh ?_ ?_ | refine Hp.wpa sh ?_ ?_ | refine Hp.atl_store ?_ ?_); exact rfl; (try (refine Hp.wsB sh ?_)); clear sh; (try clear F); go_simp; (first | intro b w1 sh | intro w1 sh); have F := sh.fx)
              | fail)
          clear d1 d2 d3
          go_roundw
          case rel => exact ⟨3, R1, rfl, by omega, HR1.out, sh.imp fun _ _ => trivial⟩
          case measure => simp [intOf]
        · rw [show (7 - 1 * ((3 : Nat) : Int)) = 4 from rfl] at hv
          subst hv
          have HN := Lib.hid (DigP.tailB_next M 3)
          rw [show 2 ^ (56 - 8 * 3) = 4294967296 from rfl] at HN
          have d1 : (M : Int) / 4294967296 = ((M / 4294967296 : Nat) : Int) := by omega
          have d2 := DigP.by8 (M / 4294967296)
          have d3 := DigP.by8' (M / 4294967296)
          generalize UInt8.ofNat (M / 4294967296) = y at HN d2 d3
          generalize M / 4294967296 = mm at d1 d2 d3
          have F : True := trivial
          go_wp2_with (first
              | ((with_reducible refine Hp.atl_lit ?_ ?_); exact rfl; (refine Hp.wp_lit 1 (bcells [y]) Tryd.i_u8 Tryd.underlying51 sh rfl rfl (by omega) rfl ?_); clear sh; (try clear F); intro gl w1 sh; replace sh := sh.freeze1 (vs := bcells [y]) (fun i v h => by simpa using h); (have F := sh.fx); go_simp)
              | ((with_reducible refine Hp.atl_append 27 ?_ ?_); exact rfl; (refine Hp.wp_append (R := R) (H := [(b2, DigP.bA DigP.zero32, 23), (bs, #[.int .u32 (a.toNat : Int), .int .u32 (b.toNat : Int), .int .u32 (c.toNat : Int), .int .u32 (d.toNat : Int), .int .u32 (e.toNat : Int), .int .u32 (f.toNat : Int), .int .u32 (g.toNat : Int), .int .u32 (h.toNat : Int), .int .u64 (n : Int), .string (bstr r)], 64)]) (news := bcells [y]) Tryd.i_u8 Tryd.underlying51 (by decide) rfl (by decide) sh HR.out rfl rfl rfl sh.data.1 (fun h => by cases h) (Hp.ones_mem rfl) (by omega) ?_); clear sh; (try clear F); intro v1 R1 w1 sh hr; rw [DigP.bc_app, List.append_assoc, ← HN.out] at hr; obtain ⟨g3, cp3, rfl, -⟩ := hr.head (by omega); have HR1 := Lib.hid hr; clear hr; go_simp)
              | ((with_reducible first | refine Hp.wpl_box sh ?_ ?_ | refine Hp.wpa sh ?_ ?_ | refine Hp.atl_store ?_ ?_); exact rfl; (try (refine Hp.wsB sh ?_)); clear sh; (try clear F); go_simp; (first | intro b w1 sh | intro w1 sh); have F := sh.fx)
              | fail)
          clear d1 d2 d3
          go_roundw
          case rel => exact ⟨4, R1, rfl, by omega, HR1.out, sh.imp fun _ _ => trivial⟩
          case measure => simp [intOf]
        · rw [show (7 - 1 * ((4 : Nat) : Int)) = 3 from rfl] at hv
          subst hv
          have HN := Lib.hid (DigP.tailB_next M 4)
          rw [show 2 ^ (56 - 8 * 4) = 16777216 from rfl] at HN
          have d1 : (M : Int) / 16777216 = ((M / 16777216 : Nat) : Int) := by omega
          have d2 := DigP.by8 (M / 16777216)
          have d3 := DigP.by8' (M / 16777216)
          generalize UInt8.ofNat (M / 16777216) = y at HN d2 d3
          generalize M / 16777216 = mm at d1 d2 d3
          have F : True := trivial
          go_wp2_with (first
              | ((with_reducible refine Hp.atl_lit ?_ ?_); exact rfl; (refine Hp.wp_lit 1 (bcells [y]) Tryd.i_u8 Tryd.underlying51 sh rfl rfl (by omega) rfl ?_); clear sh; (try clear F); intro gl w1 sh; replace sh := sh.freeze1 (vs := bcells [y]) (fun i v h => by simpa using h); (have F := sh.fx); go_simp)
              | ((with_reducible refine Hp.atl_append 27 ?_ ?_); exact rfl; (refine Hp.wp_append (R := R) (H := [(b2, DigP.bA DigP.zero32, 23), (bs, #[.int .u32 (a.toNat : Int), .int .u32 (b.toNat : Int), .int .u32 (c.toNat : Int), .int .u32 (d.toNat : Int), .int .u32 (e.toNat : Int), .int .u32 (f.toNat : Int), .int .u32 (g.toNat : Int), .int .u32 (h.toNat : Int), .int .u64 (n : Int), .string (bstr r)], 64)]) (news := bcells [y]) Tryd.i_u8 Tryd.underlying51 (by decide) rfl (by decide) sh HR.out rfl rfl rfl sh.data.1 (fun h => by cases h) (Hp.ones_mem rfl) (by omega) ?_); clear sh; (try clear F); intro v1 R1 w1 sh hr; rw [DigP.bc_app, List.append_assoc, ← HN.out] at hr; obtain ⟨g3, cp3, rfl, -⟩ := hr.head (by omega); have HR1 := Lib.hid hr; clear hr; go_simp)
              | ((with_reducible first | refine Hp.wpl_box sh ?_ ?_ | refine Hp.wpa sh ?_ ?_ | refine Hp.atl_store ?_ ?_); exact rfl; (try (refine Hp.wsB sh ?_)); clear sh; (try clear F); go_simp; (first | intro b w1 sh | intro w1 sh); have F := sh.fx)
              | fail)
          clear d1 d2 d3
          go_roundw
          case rel => exact ⟨5, R1, rfl, by omega, HR1.out, sh.imp fun _ _ => trivial⟩
          case measure => simp [intOf]
        · rw [show (7 - 1 * ((5 : Nat) : Int)) = 2 from rfl] at hv
          subst hv
          have HN := Lib.hid (DigP.tailB_next M 5)
          rw [show 2 ^ (56 - 8 * 5) = 65536 from rfl] at HN
          have d1 : (M : Int) / 65536 = ((M / 65536 : Nat) : Int) := by omega
          have d2 := DigP.by8 (M / 65536)
          have d3 := DigP.by8' (M / 65536)
          generalize UInt8.ofNat (M / 65536) = y at HN d2 d3
          generalize M / 65536 = mm at d1 d2 d3
          have F : True := trivial
          go_wp2_with (first
              | ((with_reducible refine Hp.atl_lit ?_ ?_); exact rfl; (refine Hp.wp_lit 1 (bcells [y]) Tryd.i_u8 Tryd.underlying51 sh rfl rfl (by omega) rfl ?_); clear sh; (try clear F); intro gl w1 sh; replace sh := sh.freeze1 (vs := bcells [y]) (fun i v h => by simpa using h); (have F := sh.fx); go_simp)
              | ((with_reducible refine Hp.atl_append 27 ?_ ?_); exact rfl; (refine Hp.wp_append (R := R) (H := [(b2, DigP.bA DigP.zero32, 23), (bs, #[.int .u32 (a.toNat : Int), .int .u32 (b.toNat : Int), .int .u32 (c.toNat : Int), .int .u32 (d.toNat : Int), .int .u32 (e.toNat : Int), .int .u32 (f.toNat : Int), .int .u32 (g.toNat : Int), .int .u32 (h.toNat : Int), .int .u64 (n : Int), .string (bstr r)], 64)]) (news := bcells [y]) Tryd.i_u8 Tryd.underlying51 (by decide) rfl (by decide) sh HR.out rfl rfl rfl sh.data.1 (fun h => by cases h) (Hp.ones_mem rfl) (by omega) ?_); clear sh; (try clear F); intro v1 R1 w1 sh hr; rw [DigP.bc_app, List.append_assoc, ← HN.out] at hr; obtain ⟨g3, cp3, rfl, -⟩ := hr.head (by omega); have HR1 := Lib.hid hr; clear hr; go_simp)
              | ((with_reducible first | refine Hp.wpl_box sh ?_ ?_ | refine Hp.wpa sh ?_ ?_ | refine Hp.atl_store ?_ ?_); exact rfl; (try (refine Hp.wsB sh ?_)); clear sh; (try clear F); go_simp; (first | intro b w1 sh | intro w1 sh); have F := sh.fx)
              | fail)
          clear d1 d2 d3
          go_roundw
          case rel => exact ⟨6, R1, rfl, by omega, HR1.out, sh.imp fun _ _ => trivial⟩
          case measure => simp [intOf]
        · rw [show (7 - 1 * ((6 : Nat) : Int)) = 1 from rfl] at hv
          subst hv
          have HN := Lib.hid (DigP.tailB_next M 6)
          rw [show 2 ^ (56 - 8 * 6) = 256 from rfl] at HN
          have d1 : (M : Int) / 256 = ((M / 256 : Nat) : Int) := by omega
          have d2 := DigP.by8 (M / 256)
          have d3 := DigP.by8' (M / 256)
          generalize UInt8.ofNat (M / 256) = y at HN d2 d3
          generalize M / 256 = mm at d1 d2 d3
          have F : True := trivial
          go_wp2_with (first
              | ((with_reducible refine Hp.atl_lit ?_ ?_); exact rfl; (refine Hp.wp_lit 1 (bcells [y]) Tryd.i_u8 Tryd.underlying51 sh rfl rfl (by omega) rfl ?_); clear sh; (try clear F); intro gl w1 sh; replace sh := sh.freeze1 (vs := bcells [y]) (fun i v h => by simpa using h); (have F := sh.fx); go_simp)
              | ((with_reducible refine Hp.atl_append 27 ?_ ?_); exact rfl; (refine Hp.wp_append (R := R) (H := [(b2, DigP.bA DigP.zero32, 23), (bs, #[.int .u32 (a.toNat : Int), .int .u32 (b.toNat : Int), .int .u32 (c.toNat : Int), .int .u32 (d.toNat : Int), .int .u32 (e.toNat : Int), .int .u32 (f.toNat : Int), .int .u32 (g.toNat : Int), .int .u32 (h.toNat : Int), .int .u64 (n : Int), .string (bstr r)], 64)]) (news := bcells [y]) Tryd.i_u8 Tryd.underlying51 (by decide) rfl (by decide) sh HR.out rfl rfl rfl sh.data.1 (fun h => by cases h) (Hp.ones_mem rfl) (by omega) ?_); clear sh; (try clear F); intro v1 R1 w1 sh hr; rw [DigP.bc_app, List.append_assoc, ← HN.out] at hr; obtain ⟨g3, cp3, rfl, -⟩ := hr.head (by omega); have HR1 := Lib.hid hr; clear hr; go_simp)
              | ((with_reducible first | refine Hp.wpl_box sh ?_ ?_ | refine Hp.wpa sh ?_ ?_ | refine Hp.atl_store ?_ ?_); exact rfl; (try (refine Hp.wsB sh ?_)); clear sh; (try clear F); go_simp; (first | intro b w1 sh | intro w1 sh); have F := sh.fx)
              | fail)
          clear d1 d2 d3
          go_roundw
          case rel => exact ⟨7, R1, rfl, by omega, HR1.out, sh.imp fun _ _ => trivial⟩
          case measure => simp [intOf]
        · rw [show (7 - 1 * ((7 : Nat) : Int)) = 0 from rfl] at hv
          subst hv
          have HN := Lib.hid (DigP.tailB_next M 7)
          rw [show 2 ^ (56 - 8 * 7) = 1 from rfl] at HN
          have d1 : (M : Int) / 1 = ((M / 1 : Nat) : Int) := by omega
          have d2 := DigP.by8 (M / 1)
          have d3 := DigP.by8' (M / 1)
          generalize UInt8.ofNat (M / 1) = y at HN d2 d3
          rw [Nat.div_one] at d1 d2 d3
          have F : True := trivial
          go_wp2_with (first
              | ((with_reducible refine Hp.atl_lit ?_ ?_); exact rfl; (refine Hp.wp_lit 1 (bcells [y]) Tryd.i_u8 Tryd.underlying51 sh rfl rfl (by omega) rfl ?_); clear sh; (try clear F); intro gl w1 sh; replace sh := sh.freeze1 (vs := bcells [y]) (fun i v h => by simpa using h); (have F := sh.fx); go_simp)
              | ((with_reducible refine Hp.atl_append 27 ?_ ?_); exact rfl; (refine Hp.wp_append (R := R) (H := [(b2, DigP.bA DigP.zero32, 23), (bs, #[.int .u32 (a.toNat : Int), .int .u32 (b.toNat : Int), .int .u32 (c.toNat : Int), .int .u32 (d.toNat : Int), .int .u32 (e.toNat : Int), .int .u32 (f.toNat : Int), .int .u32 (g.toNat : Int), .int .u32 (h.toNat : Int), .int .u64 (n : Int), .string (bstr r)], 64)]) (news := bcells [y]) Tryd.i_u8 Tryd.underlying51 (by decide) rfl (by decide) sh HR.out rfl rfl rfl sh.data.1 (fun h => by cases h) (Hp.ones_mem rfl) (by omega) ?_); clear sh; (try clear F); intro v1 R1 w1 sh hr; rw [DigP.bc_app, List.append_assoc, ← HN.out] at hr; obtain ⟨g3, cp3, rfl, -⟩ := hr.head (by omega); have HR1 := Lib.hid hr; clear hr; go_simp)
              | ((with_reducible first | refine Hp.wpl_box sh ?_ ?_ | refine Hp.wpa sh ?_ ?_ | refine Hp.atl_store ?_ ?_); exact rfl; (try (refine Hp.wsB sh ?_)); clear sh; (try clear F); go_simp; (first | intro b w1 sh | intro w1 sh); have F := sh.fx)
              | fail)
          clear d1 d2 d3
          go_roundw
          case rel => exact ⟨8, R1, rfl, by omega, HR1.out, sh.imp fun _ _ => trivial⟩
          case measure => simp [intOf]
        · rw [show (7 - 1 * ((8 : Nat) : Int)) = -1 from rfl] at hv
          subst hv
          replace sh := sh.freeze HR.out
          have hcv := Hp.conv_rdv (P := Tryd.prog) (n := m + 8) (cap := cp2) sh.data.1 (by rw [List.length_append, DigP.tailA_length (by omega)]; rfl) Tryd.underlying51 Tryd.underlying5 Tryd.underlying9
          have F := sh.fx
          go_wp2_with (first
              | ((with_reducible first | refine Hp.wpl_box sh ?_ ?_ | refine Hp.wpa sh ?_ ?_ | refine Hp.atl_store ?_ ?_); exact rfl; (try (refine Hp.wsB sh ?_)); clear sh; (try clear F); go_simp; (first | intro b w1 sh | intro w1 sh); have F := sh.fx)
              | fail)
          go_fit (K1.out _)
          rintro e w1 ⟨rfl, hb⟩
          replace sh := sh.call hb; clear hb; (try clear F); have F := sh.fx
          clear hcv
          have tok_b3 : True := trivial
          go_wp2_with (first
              | ((with_reducible first | refine Hp.wpl_box sh ?_ ?_ | refine Hp.wpa sh ?_ ?_ | refine Hp.atl_store ?_ ?_); exact rfl; (try (refine Hp.wsB sh ?_)); clear sh; (try clear F); go_simp; (first | (have tok := tok_b3; clear tok tok_b3; intro b3 w1 sh) | intro b w1 sh | intro w1 sh); have F := sh.fx)
              | fail)
          go_loopw [7] (fun i wr => ∃ k : Nat, i = .int .i64 k ∧ k ≤ 32 ∧ Hp.Sh w wr [(b3, DigP.bA (DigP.pad32 ((DigP.bytesOf (x0, x1, x2, x3, x4, x5, x6, x7)).take k)), 23), (b2, DigP.bA DigP.zero32, 23), (bs, (DigP.stV ((x0, x1, x2, x3, x4, x5, x6, x7), n2, r2)).toArray, 64)] (fun W => True)) (fun i _ => 32 - (intOf i).toNat)
          case atStart => exact ⟨0, rfl, by omega, by rw [show DigP.pad32 (List.take 0 (DigP.bytesOf (x0, x1, x2, x3, x4, x5, x6, x7))) = DigP.zero32 from rfl]; exact sh.imp fun _ _ => trivial⟩
          case round =>
            clear sh F HR
            obtain ⟨k, rfl, hk, sh⟩ := hrel
            have HL := Lib.hid (DigP.bytesOf_length (x0, x1, x2, x3, x4, x5, x6, x7))
            by_cases hlt : k < 32
            · have hlI : (k : Int) < 32 := by omega
              have HN := Lib.hid (DigP.bytesOf_next (x0, x1, x2, x3, x4, x5, x6, x7) hlt)
              have hcs := Hp.Sh.at sh (i := 2) rfl (j := k / 4) (DigP.nth10 ((x0, x1, x2, x3, x4, x5, x6, x7), n2, r2) (k / 4) (by omega))
              rw [show (((x0, x1, x2, x3, x4, x5, x6, x7), n2, r2) : DigP.St).1 = (x0, x1, x2, x3, x4, x5, x6, x7) from rfl] at hcs
              generalize DigP.nthW (x0, x1, x2, x3, x4, x5, x6, x7) (k / 4) = x at HN hcs
              have e0 : k / 4 < 8 := by omega
              have e1 : (k : Int) / 4 = ((k / 4 : Nat) : Int) := by omega
              have e2 : (k : Int).tdiv 4 = ((k / 4 : Nat) : Int) := by rw [Int.tdiv_eq_ediv_of_nonneg (by omega)]; exact e1
              have e4 : ((k / 4 : Nat) : Int) < 8 := by omega
              have e3 : (k : Int) % 4 = ((k % 4 : Nat) : Int) := by omega
              have e5 : (k : Int).tmod 4 = ((k % 4 : Nat) : Int) := by rw [Int.tmod_eq_emod_of_nonneg (by omega)]; exact e3
              generalize k / 4 = q at *
              have HLT := Lib.hid (show ((DigP.bytesOf (x0, x1, x2, x3, x4, x5, x6, x7)).take k).length = k by rw [List.length_take, HL.out]; omega)
              have hsz : k + 1 ≤ (DigP.bA (DigP.pad32 ((DigP.bytesOf (x0, x1, x2, x3, x4, x5, x6, x7)).take k))).size := by rw [DigP.bA_size, DigP.pad32_length (by rw [HLT.out]; omega)]; omega
              have hs4 : k % 4 = 0 ∨ k % 4 = 1 ∨ k % 4 = 2 ∨ k % 4 = 3 := by omega
              rcases hs4 with hs4 | hs4 | hs4 | hs4
              · rw [hs4] at e3 e5 HN
                rw [show 2 ^ (24 - 8 * 0) = 16777216 from rfl] at HN
                have d1 : (x.toNat : Int) / 16777216 = ((x.toNat / 16777216 : Nat) : Int) := by omega
                have d2 := DigP.by8 (x.toNat / 16777216)
                have d3 := DigP.by8' (x.toNat / 16777216)
                generalize UInt8.ofNat (x.toNat / 16777216) = y at HN d2 d3
                generalize x.toNat / 16777216 = mm at d1 d2 d3
                have HP := Lib.hid (show (DigP.bA (DigP.pad32 ((DigP.bytesOf (x0, x1, x2, x3, x4, x5, x6, x7)).take k))).setIfInBounds k (.int .u8 (y.toNat : Int)) = DigP.bA (DigP.pad32 ((DigP.bytesOf (x0, x1, x2, x3, x4, x5, x6, x7)).take (k + 1))) by rw [DigP.bA_set, HN.out]; have := DigP.pad32_set (l := (DigP.bytesOf (x0, x1, x2, x3, x4, x5, x6, x7)).take k) y (by rw [HLT.out]; omega); rw [HLT.out] at this; rw [this])
                have F : True := trivial
                go_wp2_with (first
                    | ((with_reducible refine Hp.atl_store ?_ ?_); exact rfl; (refine Hp.wp_store 0 sh rfl rfl rfl rfl (by kernel_rfl) (hsz) rfl ?_); clear sh; (try clear F); go_simp; intro w1 sh; rw [HP.out] at sh; have F := sh.fx)
                    | ((with_reducible first | refine Hp.wpl_box sh ?_ ?_ | refine Hp.wpa sh ?_ ?_ | refine Hp.atl_store ?_ ?_); exact rfl; (try (refine Hp.wsB sh ?_)); clear sh; (try clear F); go_simp; (first | intro b w1 sh | intro w1 sh); have F := sh.fx)
                    | fail)
                clear d1 d2 d3 e1 e2 e3 e4 e5
                go_roundw
                case rel => exact ⟨k + 1, by go_num, by omega, sh⟩
                case measure => simp [intOf]; omega
              · rw [hs4] at e3 e5 HN
                rw [show 2 ^ (24 - 8 * 1) = 65536 from rfl] at HN
                have d1 : (x.toNat : Int) / 65536 = ((x.toNat / 65536 : Nat) : Int) := by omega
                have d2 := DigP.by8 (x.toNat / 65536)
                have d3 := DigP.by8' (x.toNat / 65536)
                generalize UInt8.ofNat (x.toNat / 65536) = y at HN d2 d3
                generalize x.toNat / 65536 = mm at d1 d2 d3
                have HP := Lib.hid (show (DigP.bA (DigP.pad32 ((DigP.bytesOf (x0, x1, x2, x3, x4, x5, x6, x7)).take k))).setIfInBounds k (.int .u8 (y.toNat : Int)) = DigP.bA (DigP.pad32 ((DigP.bytesOf (x0, x1, x2, x3, x4, x5, x6, x7)).take (k + 1))) by rw [DigP.bA_set, HN.out]; have := DigP.pad32_set (l := (DigP.bytesOf (x0, x1, x2, x3, x4, x5, x6, x7)).take k) y (by rw [HLT.out]; omega); rw [HLT.out] at this; rw [this])
                have F : True := trivial
                go_wp2_with (first
                    | ((with_reducible refine Hp.atl_store ?_ ?_); exact rfl; (refine Hp.wp_store 0 sh rfl rfl rfl rfl (by kernel_rfl) (hsz) rfl ?_); clear sh; (try clear F); go_simp; intro w1 sh; rw [HP.out] at sh; have F := sh.fx)
                    | ((with_reducible first | refine Hp.wpl_box sh ?_ ?_ | refine Hp.wpa sh ?_ ?_ | refine Hp.atl_store ?_ ?_); exact rfl; (try (refine Hp.wsB sh ?_)); clear sh; (try clear F); go_simp; (first | intro b w1 sh | intro w1 sh); have F := sh.fx)
                    | fail)
                clear d1 d2 d3 e1 e2 e3 e4 e5
                go_roundw
                case rel => exact ⟨k + 1, by go_num, by omega, sh⟩
                case measure => simp [intOf]; omega
              · rw [hs4] at e3 e5 HN
                rw [show 2 ^ (24 - 8 * 2) = 256 from rfl] at HN
                have d1 : (x.toNat : Int) / 256 = ((x.toNat / 256 : Nat) : Int) := by omega
                have d2 := DigP.by8 (x.toNat / 256)
                have d3 := DigP.by8' (x.toNat / 256)
                generalize UInt8.ofNat (x.toNat / 256) = y at HN d2 d3
                generalize x.toNat / 256 = mm at d1 d2 d3
                have HP := Lib.hid (show (DigP.bA (DigP.pad32 ((DigP.bytesOf (x0, x1, x2, x3, x4, x5, x6, x7)).take k))).setIfInBounds k (.int .u8 (y.toNat : Int)) = DigP.bA (DigP.pad32 ((DigP.bytesOf (x0, x1, x2, x3, x4, x5, x6, x7)).take (k + 1))) by rw [DigP.bA_set, HN.out]; have := DigP.pad32_set (l := (DigP.bytesOf (x0, x1, x2, x3, x4, x5, x6, x7)).take k) y (by rw [HLT.out]; omega); rw [HLT.out] at this; rw [this])
                have F : True := trivial
                go_wp2_with (first
                    | ((with_reducible refine Hp.atl_store ?_ ?_); exact rfl; (refine Hp.wp_store 0 sh rfl rfl rfl rfl (by kernel_rfl) (hsz) rfl ?_); clear sh; (try clear F); go_simp; intro w1 sh; rw [HP.out] at sh; have F := sh.fx)
                    | ((with_reducible first | refine Hp.wpl_box sh ?_ ?_ | refine Hp.wpa sh ?_ ?_ | refine Hp.atl_store ?_ ?_); exact rfl; (try (refine Hp.wsB sh ?_)); clear sh; (try clear F); go_simp; (first | intro b w1 sh | intro w1 sh); have F := sh.fx)
                    | fail)
                clear d1 d2 d3 e1 e2 e3 e4 e5
                go_roundw
                case rel => exact ⟨k + 1, by go_num, by omega, sh⟩
                case measure => simp [intOf]; omega
              · rw [hs4] at e3 e5 HN
                rw [show 2 ^ (24 - 8 * 3) = 1 from rfl] at HN
                have d1 : (x.toNat : Int) / 1 = ((x.toNat / 1 : Nat) : Int) := by omega
                have d2 := DigP.by8 (x.toNat / 1)
                have d3 := DigP.by8' (x.toNat / 1)
                generalize UInt8.ofNat (x.toNat / 1) = y at HN d2 d3
                rw [Nat.div_one] at d1 d2 d3
                have HP := Lib.hid (show (DigP.bA (DigP.pad32 ((DigP.bytesOf (x0, x1, x2, x3, x4, x5, x6, x7)).take k))).setIfInBounds k (.int .u8 (y.toNat : Int)) = DigP.bA (DigP.pad32 ((DigP.bytesOf (x0, x1, x2, x3, x4, x5, x6, x7)).take (k + 1))) by rw [DigP.bA_set, HN.out]; have := DigP.pad32_set (l := (DigP.bytesOf (x0, x1, x2, x3, x4, x5, x6, x7)).take k) y (by rw [HLT.out]; omega); rw [HLT.out] at this; rw [this])
                have F : True := trivial
                go_wp2_with (first
                    | ((with_reducible refine Hp.atl_store ?_ ?_); exact rfl; (refine Hp.wp_store 0 sh rfl rfl rfl rfl (by kernel_rfl) (hsz) rfl ?_); clear sh; (try clear F); go_simp; intro w1 sh; rw [HP.out] at sh; have F := sh.fx)
                    | ((with_reducible first | refine Hp.wpl_box sh ?_ ?_ | refine Hp.wpa sh ?_ ?_ | refine Hp.atl_store ?_ ?_); exact rfl; (try (refine Hp.wsB sh ?_)); clear sh; (try clear F); go_simp; (first | intro b w1 sh | intro w1 sh); have F := sh.fx)
                    | fail)
                clear d1 d2 d3 e1 e2 e3 e4 e5
                go_roundw
                case rel => exact ⟨k + 1, by go_num, by omega, sh⟩
                case measure => simp [intOf]; omega
            · obtain rfl : k = 32 := by omega
              rw [List.take_of_length_le (by rw [HL.out]; omega), DigP.pad32_full HL.out] at sh
              have HLI := Lib.hid (show (Tryd.prog.info? 23).map (·.size) = some (DigP.bA (DigP.bytesOf (x0, x1, x2, x3, x4, x5, x6, x7))).size by rw [DigP.bA_size, HL.out]; kernel_rfl)
              have HSZ := Lib.hid (show (DigP.bA (DigP.bytesOf (x0, x1, x2, x3, x4, x5, x6, x7))).size = (DigP.bA DigP.zero32).size by rw [DigP.bA_size, HL.out, DigP.bA_size]; rfl)
              have HIF := Lib.hid (show (Tryd.prog.info? 23).map (·.size) = some (DigP.bA DigP.zero32).size by kernel_rfl)
              have HON := Lib.hid (DigP.ones_bcells (DigP.bytesOf (x0, x1, x2, x3, x4, x5, x6, x7)))
              generalize DigP.bytesOf (x0, x1, x2, x3, x4, x5, x6, x7) = dd at sh HLI HSZ HON HX
              have F : True := trivial
              go_wp2_with (first
                  | ((with_reducible refine Hp.atl_load 23 ?_); (refine Hp.wpl_load_all 0 sh rfl rfl rfl Tryd.underlying23 rfl (HLI.out) ?_); go_simp)
                  | ((with_reducible refine Hp.atl_store ?_ ?_); exact rfl; (refine Hp.wp_store_all 1 sh rfl rfl rfl HSZ.out HIF.out HON.out ?_); clear sh; (try clear F); intro w1 sh; have F := sh.fx)
                  | ((with_reducible first | refine Hp.wpl_box sh ?_ ?_ | refine Hp.wpa sh ?_ ?_ | refine Hp.atl_store ?_ ?_); exact rfl; (try (refine Hp.wsB sh ?_)); clear sh; (try clear F); go_simp; (first | intro b w1 sh | intro w1 sh); have F := sh.fx)
                  | fail)
              exact bodyPost_ret (Hp.res_c rfl rfl (sh.load 1 rfl (by kernel_rfl) HLI.out)) rfl ⟨DigP.ofV _ _ HX.out.symm, sh.below⟩
    · have ht : (r.length + m) % 64 ≠ 56 := fun q => hlt ((HTT.out m hm1 hm2).1 q)
      generalize (r.length + m) % 64 = z at q1 q2 ht
      have z1 : ((z : Int) == 56) = false := by simp; omega
      have z2 : ((z : Int) != 56) = true := by simp; omega
      have hm3 : m + 1 ≤ 1 + T := by omega
      have HN := Lib.hid (DigP.tailA_next hm1)
      clear hlt ht
      go_wp2_with (first
          | ((with_reducible refine Hp.atl_lit ?_ ?_); exact rfl; (refine Hp.wp_lit 1 (bcells [0]) Tryd.i_u8 Tryd.underlying51 sh rfl rfl (by omega) rfl ?_); clear sh; (try clear F); intro gl w1 sh; replace sh := sh.freeze1 (vs := bcells [0]) (fun i v h => by simpa using h); (have F := sh.fx); go_simp)
          | ((with_reducible refine Hp.atl_append 20 ?_ ?_); exact rfl; (refine Hp.wp_append (R := R) (H := [(b2, DigP.bA DigP.zero32, 23), (bs, #[.int .u32 (a.toNat : Int), .int .u32 (b.toNat : Int), .int .u32 (c.toNat : Int), .int .u32 (d.toNat : Int), .int .u32 (e.toNat : Int), .int .u32 (f.toNat : Int), .int .u32 (g.toNat : Int), .int .u32 (h.toNat : Int), .int .u64 (n : Int), .string (bstr r)], 64)]) (news := bcells [0]) Tryd.i_u8 Tryd.underlying51 (by decide) rfl (by decide) sh HR.out rfl rfl rfl sh.data.1 (fun h => by cases h) (Hp.ones_mem rfl) (by omega) ?_); clear sh; (try clear F); intro v1 R1 w1 sh hr; rw [DigP.bc_app, HN.out] at hr; obtain ⟨g2, cp2, rfl, -⟩ := hr.head (by omega); have HR1 := Lib.hid hr; clear hr; go_simp)
          | ((with_reducible first | refine Hp.wpl_box sh ?_ ?_ | refine Hp.wpa sh ?_ ?_ | refine Hp.atl_store ?_ ?_); exact rfl; (try (refine Hp.wsB sh ?_)); clear sh; (try clear F); go_simp; (first | intro b w1 sh | intro w1 sh); have F := sh.fx)
          | fail)
      clear q1 q2 z1 z2
      go_roundw
      case rel => exact ⟨m + 1, R1, by omega, hm3, HR1.out, sh.imp fun _ _ => trivial⟩
      case measure => show 65 - (m + 1) < 65 - m; omega


end Go.Proofs.YtfcffglgkblidaaDoor
