
/-
  The walks of Put and of the reference's.
-/
import Derived.Test.YtfcffglgkblidaaDoorEv2
namespace Go.Proofs.YtfcffglgkblidaaDoor
open Go.RowKit
set_option linter.unusedVariables false
set_option linter.unusedSimpArgs false

namespace EvP
/-- What Put hands back. -/
def putR (x : Ev) : List UInt8 × Int := if isB x = true then (putE x, 0) else ([], 1)
def putV (x : Ev) : Value := .tuple #[.string (bstr (putR x).1), .int .i64 (putR x).2]
theorem putV_no {x : Ev} (h : isB x = false) : putV x = .tuple #[.string ByteArray.empty, .int .i64 1] := by
  unfold putV putR; rw [h]; rfl
theorem putV_yes {x : Ev} (h : isB x = true) : putV x = .tuple #[.string (bstr (putE x)), .int .i64 0] := by
  unfold putV putR; rw [h]; rfl
theorem wrapu8 {k : Int} (h1 : 1 ≤ k) (h2 : k ≤ 8) : IntKind.u8.wrap k = k := by simp [IntKind.wrap, IntKind.bits, IntKind.signed]; omega
theorem wrapu {k : Int} (h1 : 0 ≤ k) (h2 : k ≤ 18446744073709551615) : IntKind.u64.wrap k = (k.toNat : Int) := by simp [IntKind.wrap, IntKind.bits, IntKind.signed]; omega
theorem wrapu' {k : Int} (h1 : 0 ≤ k) (h2 : k ≤ 18446744073709551615) : IntKind.u64.wrap k = k := by simp [IntKind.wrap, IntKind.bits, IntKind.signed]; omega
theorem wrapi {k : Int} (h1 : 0 ≤ k) (h2 : k ≤ 9223372036854775807) : IntKind.i64.wrap k = k := by simp [IntKind.wrap, IntKind.bits, IntKind.signed]; omega
theorem ret_put {x : Ev} {l : List UInt8} (h : isB x = true) (hl : l = putE x) : Ending.returned (.tuple #[.string (bstr l), .int .i64 0]) = .returned (putV x) := by rw [putV_yes h, hl]
end EvP

set_option maxHeartbeats 4000000 in set_option maxRecDepth 100000 in
theorem erput (q t p k a b : Int) (w : World) (hq : 0 ≤ q ∧ q ≤ 18446744073709551615) (ht : -9223372036854775808 ≤ t ∧ t ≤ 9223372036854775807) (hp : -9223372036854775808 ≤ p ∧ p ≤ 9223372036854775807) (hk : -9223372036854775808 ≤ k ∧ k ≤ 9223372036854775807) (ha : -9223372036854775808 ≤ a ∧ a ≤ 9223372036854775807) (hb : -9223372036854775808 ≤ b ∧ b ≤ 9223372036854775807) : Calls Tryd.prog 44 #[.agg #[.int .u64 q, .int .i64 t, .int .i64 p, .int .i64 k, .int .i64 a, .int .i64 b]] w fun e w' => e = .returned (EvP.putV (q, t, p, k, a, b)) ∧ Below w.heap.size w w' := by
  have sh : Hp.Sh w w [] (fun _ => True) := Hp.Sh.start (fun _ _ => trivial)
  have H1 := Lib.hid (fun W => eris q t p k a b W hq ht hp hk ha hb)
  by_cases h : EvP.isB (q, t, p, k, a, b) = true
  · rw [h] at H1
    have h' := EvP.isB_iff.1 h
    have HE := Lib.hid h
    clear h
    have K1 := Lib.hid (fun W => wireRefPut_any q.toNat W (by omega))
    have K2 := Lib.hid (fun W => wireRefPut_any t.toNat W (by omega))
    have K3 := Lib.hid (fun W => wireRefPut_any (p + 1).toNat W (by omega))
    have K4 := Lib.hid (fun W => wireRefPut_any a.toNat W (by omega))
    have K5 := Lib.hid (fun W => wireRefPut_any b.toNat W (by omega))
    have e0 := EvP.wrapu8 (k := k) (by omega) (by omega)
    have e1 : (q.toNat : Int) = q := by omega
    have e2 := EvP.wrapu (k := t) (by omega) (by omega)
    have e3 := EvP.wrapu (k := p + 1) (by omega) (by omega)
    have e3a : IntKind.i64.wrap (p + 1) = p + 1 := EvP.wrapi (by omega) (by omega)
    have e4 := EvP.wrapu (k := a) (by omega) (by omega)
    have e5 := EvP.wrapu (k := b) (by omega) (by omega)
    have L1 := WireP.putL_le10 q.toNat (by omega)
    have L2 := WireP.putL_le10 t.toNat (by omega)
    have L3 := WireP.putL_le10 (p + 1).toNat (by omega)
    have L4 := WireP.putL_le10 a.toNat (by omega)
    have L5 := WireP.putL_le10 b.toNat (by omega)
    go_enter Tryd.func44, Tryd.ntmps44
    have tok_bx : True := trivial
    go_wp2_with (first
        | ((with_reducible first | refine Hp.wpl_box sh ?_ ?_ | refine Hp.atl_store ?_ ?_); exact rfl; (try (refine Hp.wsB sh ?_)); clear sh; (try clear F); go_simp; (first | (have tok := tok_bx; clear tok tok_bx; intro bx w1 sh) | intro b w1 sh | intro w1 sh); have F := sh.fx)
        | fail)
    go_fit (H1.out _)
    rintro e w1 ⟨rfl, hb⟩
    replace sh := sh.call hb; clear hb; (try clear F); have F := sh.fx
    go_wp2_with (first
        | ((with_reducible first | refine Hp.wpl_box sh ?_ ?_ | refine Hp.atl_store ?_ ?_); exact rfl; (try (refine Hp.wsB sh ?_)); clear sh; (try clear F); go_simp; (first | intro b w1 sh | intro w1 sh); have F := sh.fx)
        | fail)
    have KB := Lib.hid (show bcells [UInt8.ofNat k.toNat] = [.int .u8 k] by simp [bcells]; omega)
    refine Hp.region_soft (by kernel_rfl) sh (fun _ q => q) ?_; clear sh; (try clear F)
    (try simp only [Hp.p2, Hp.p3])
    (refine Hp.tks (i := 0) (oi := ⟨some 7, Op.fieldAddr 47 (Operand.tmp 1) 3, _, _, _, none⟩) (fun _ q => q) ?_)
    (refine Hp.tk (i := 1) (oi := ⟨some 8, Op.load 3 (Operand.tmp 7), _, _, _, none⟩) _ (fun _ q => q) (fun W hW => by (have F := Hp.Sh.facts hW); (have hd := Hp.Sh.data hW); (try simp only [Hp.Facts, Hp.CellsAt, Nat.reduceAdd, Hp.c1, Hp.c2] at F); skip; go_simp; (try with_reducible rfl)) ?_)
    (refine Hp.tks (i := 2) (oi := ⟨some 9, Op.convert 3 5 (Operand.tmp 8), _, _, _, none⟩) (fun _ q => q) ?_)
    (refine Hp.tks (i := 5) (oi := ⟨some 12, Op.fieldAddr 47 (Operand.tmp 1) 0, _, _, _, none⟩) (fun _ q => q) ?_)
    (refine Hp.tk (i := 6) (oi := ⟨some 13, Op.load 25 (Operand.tmp 12), _, _, _, none⟩) _ (fun _ q => q) (fun W hW => by (have F := Hp.Sh.facts hW); (have hd := Hp.Sh.data hW); (try simp only [Hp.Facts, Hp.CellsAt, Nat.reduceAdd, Hp.c1, Hp.c2] at F); skip; go_simp; (try with_reducible rfl)) ?_)
    (refine Hp.cl (i := 7) (oi := ⟨some 14, Op.call { callee := Callee.value (Operand.func 43), args := #[Operand.tmp 13], argTypes := #[25] }, _, _, _, none⟩) _ _ _ (fun _ q => q) (fun W hW => by go_simp) (fun W hW => K1.out W) ?_)
    (refine Hp.tks (i := 9) (oi := ⟨some 16, Op.fieldAddr 47 (Operand.tmp 1) 1, _, _, _, none⟩) (fun _ q => q) ?_)
    (refine Hp.tk (i := 10) (oi := ⟨some 17, Op.load 3 (Operand.tmp 16), _, _, _, none⟩) _ (fun _ q => q) (fun W hW => by (have F := Hp.Sh.facts hW); (have hd := Hp.Sh.data hW); (try simp only [Hp.Facts, Hp.CellsAt, Nat.reduceAdd, Hp.c1, Hp.c2] at F); skip; go_simp; (try with_reducible rfl)) ?_)
    (refine Hp.tks (i := 11) (oi := ⟨some 18, Op.convert 3 25 (Operand.tmp 17), _, _, _, none⟩) (fun _ q => q) ?_)
    (refine Hp.cl (i := 12) (oi := ⟨some 19, Op.call { callee := Callee.value (Operand.func 43), args := #[Operand.tmp 18], argTypes := #[25] }, _, _, _, none⟩) _ _ _ (fun _ q => q) (fun W hW => by go_simp) (fun W hW => K2.out W) ?_)
    (refine Hp.tks (i := 14) (oi := ⟨some 21, Op.fieldAddr 47 (Operand.tmp 1) 2, _, _, _, none⟩) (fun _ q => q) ?_)
    (refine Hp.tk (i := 15) (oi := ⟨some 22, Op.load 3 (Operand.tmp 21), _, _, _, none⟩) _ (fun _ q => q) (fun W hW => by (have F := Hp.Sh.facts hW); (have hd := Hp.Sh.data hW); (try simp only [Hp.Facts, Hp.CellsAt, Nat.reduceAdd, Hp.c1, Hp.c2] at F); skip; go_simp; (try with_reducible rfl)) ?_)
    (refine Hp.tks (i := 16) (oi := ⟨some 23, Op.binOp BinOp.add 3 (Operand.tmp 22) (Operand.const (Value.int IntKind.i64 1)) 3, _, _, _, none⟩) (fun _ q => q) ?_)
    (refine Hp.tks (i := 17) (oi := ⟨some 24, Op.convert 3 25 (Operand.tmp 23), _, _, _, none⟩) (fun _ q => q) ?_)
    (refine Hp.cl (i := 18) (oi := ⟨some 25, Op.call { callee := Callee.value (Operand.func 43), args := #[Operand.tmp 24], argTypes := #[25] }, _, _, _, none⟩) _ _ _ (fun _ q => q) (fun W hW => by go_simp) (fun W hW => K3.out W) ?_)
    (refine Hp.tks (i := 20) (oi := ⟨some 27, Op.fieldAddr 47 (Operand.tmp 1) 4, _, _, _, none⟩) (fun _ q => q) ?_)
    (refine Hp.tk (i := 21) (oi := ⟨some 28, Op.load 3 (Operand.tmp 27), _, _, _, none⟩) _ (fun _ q => q) (fun W hW => by (have F := Hp.Sh.facts hW); (have hd := Hp.Sh.data hW); (try simp only [Hp.Facts, Hp.CellsAt, Nat.reduceAdd, Hp.c1, Hp.c2] at F); skip; go_simp; (try with_reducible rfl)) ?_)
    (refine Hp.tks (i := 22) (oi := ⟨some 29, Op.convert 3 25 (Operand.tmp 28), _, _, _, none⟩) (fun _ q => q) ?_)
    (refine Hp.cl (i := 23) (oi := ⟨some 30, Op.call { callee := Callee.value (Operand.func 43), args := #[Operand.tmp 29], argTypes := #[25] }, _, _, _, none⟩) _ _ _ (fun _ q => q) (fun W hW => by go_simp) (fun W hW => K4.out W) ?_)
    (refine Hp.tks (i := 25) (oi := ⟨some 32, Op.fieldAddr 47 (Operand.tmp 1) 5, _, _, _, none⟩) (fun _ q => q) ?_)
    (refine Hp.tk (i := 26) (oi := ⟨some 33, Op.load 3 (Operand.tmp 32), _, _, _, none⟩) _ (fun _ q => q) (fun W hW => by (have F := Hp.Sh.facts hW); (have hd := Hp.Sh.data hW); (try simp only [Hp.Facts, Hp.CellsAt, Nat.reduceAdd, Hp.c1, Hp.c2] at F); skip; go_simp; (try with_reducible rfl)) ?_)
    (refine Hp.tks (i := 27) (oi := ⟨some 34, Op.convert 3 25 (Operand.tmp 33), _, _, _, none⟩) (fun _ q => q) ?_)
    (refine Hp.cl (i := 28) (oi := ⟨some 35, Op.call { callee := Callee.value (Operand.func 43), args := #[Operand.tmp 34], argTypes := #[25] }, _, _, _, none⟩) _ _ _ (fun _ q => q) (fun W hW => by go_simp) (fun W hW => K5.out W) ?_)
    refine Hp.soft_make (i := 3) (o := ⟨some 10, Op.buildSlice 51 1 #[(0, Operand.tmp 9)], _, _, _, none⟩) (by kernel_rfl) rfl (by rfl) (fun w1 sh K hK => ?_); (try clear F); (try have F := Hp.Sh.facts sh); (try simp only [Hp.Facts, Hp.CellsAt, Nat.reduceAdd, Hp.c1, Hp.c2] at F); (refine Hp.wp_lit 1 [.int .u8 k] Tryd.winfo_u8 Tryd.underlying51 sh rfl rfl (by omega) rfl ?_; clear sh; intro b1 w1 sh; replace sh := sh.freeze1 (vs := bcells [UInt8.ofNat k.toNat]) (fun i v h => by rw [KB.out] at h; simpa using h)); refine hK _ _ _ _ _ _ (fun _ q => q) (fun _ q => q.imp fun W h => h.2) sh ?_; clear hK K; clear sh; (try clear F); (try simp only [Act.put, Hp.p1, Hp.p2, Hp.p3])
    (refine Hp.tk (i := 4) (oi := ⟨some 11, Op.convert 51 9 (Operand.tmp 10), _, _, _, none⟩) _ (fun _ q => q) (fun W hW => (by (have hcv := Hp.conv_rdv (P := Tryd.prog) (n := 1) (cap := 1) hW.data.1 rfl Tryd.underlying51 Tryd.underlying5 Tryd.underlying9); go_simp; rfl)) ?_)
    (refine Hp.tk (i := 8) (oi := ⟨some 15, Op.binOp BinOp.add 9 (Operand.tmp 11) (Operand.tmp 14) 9, _, _, _, none⟩) _ (fun _ q => q) (fun W hW => (by go_simp; rw [if_neg (by simp only [bstr_size, List.length_append, List.length_cons, List.length_nil]; omega), bstr_append])) ?_)
    (refine Hp.tk (i := 13) (oi := ⟨some 20, Op.binOp BinOp.add 9 (Operand.tmp 15) (Operand.tmp 19) 9, _, _, _, none⟩) _ (fun _ q => q) (fun W hW => (by go_simp; rw [if_neg (by simp only [bstr_size, List.length_append, List.length_cons, List.length_nil]; omega), bstr_append])) ?_)
    (refine Hp.tk (i := 19) (oi := ⟨some 26, Op.binOp BinOp.add 9 (Operand.tmp 20) (Operand.tmp 25) 9, _, _, _, none⟩) _ (fun _ q => q) (fun W hW => (by go_simp; rw [if_neg (by simp only [bstr_size, List.length_append, List.length_cons, List.length_nil]; omega), bstr_append])) ?_)
    (refine Hp.tk (i := 24) (oi := ⟨some 31, Op.binOp BinOp.add 9 (Operand.tmp 26) (Operand.tmp 30) 9, _, _, _, none⟩) _ (fun _ q => q) (fun W hW => (by go_simp; rw [if_neg (by simp only [bstr_size, List.length_append, List.length_cons, List.length_nil]; omega), bstr_append])) ?_)
    (refine Hp.tk (i := 29) (oi := ⟨some 36, Op.binOp BinOp.add 9 (Operand.tmp 31) (Operand.tmp 35) 9, _, _, _, none⟩) _ (fun _ q => q) (fun W hW => (by go_simp; rw [if_neg (by simp only [bstr_size, List.length_append, List.length_cons, List.length_nil]; omega), bstr_append])) ?_)
    (refine Hp.tks (i := 30) (oi := ⟨some 2, Op.assign (Operand.tmp 36), _, _, _, none⟩) (fun _ q => q) ?_)
    (refine Hp.tks (i := 31) (oi := ⟨some 3, Op.assign (Operand.const (Value.int IntKind.i64 0)), _, _, _, none⟩) (fun _ q => q) ?_)
    refine Hp.soft_done (by kernel_rfl) (fun w1 sh => ?_) _; (try clear F); (try have F := Hp.Sh.facts sh); (try simp only [Hp.Facts, Hp.CellsAt, Nat.reduceAdd, Hp.c1, Hp.c2] at F)
    go_wp2
    go_ret2
    exact ⟨EvP.ret_put HE.out (by simp [EvP.putE]), sh.below⟩
  · rw [Bool.not_eq_true] at h
    rw [h] at H1
    rw [EvP.putV_no h]
    clear h
    go_enter Tryd.func44, Tryd.ntmps44
    have tok_bx : True := trivial
    go_wp2_with (first
        | ((with_reducible first | refine Hp.wpl_box sh ?_ ?_ | refine Hp.atl_store ?_ ?_); exact rfl; (try (refine Hp.wsB sh ?_)); clear sh; (try clear F); go_simp; (first | (have tok := tok_bx; clear tok tok_bx; intro bx w1 sh) | intro b w1 sh | intro w1 sh); have F := sh.fx)
        | fail)
    go_fit (H1.out _)
    rintro e w1 ⟨rfl, hb⟩
    replace sh := sh.call hb; clear hb; (try clear F); have F := sh.fx
    go_wp2_with (first
        | ((with_reducible first | refine Hp.wpl_box sh ?_ ?_ | refine Hp.atl_store ?_ ?_); exact rfl; (try (refine Hp.wsB sh ?_)); clear sh; (try clear F); go_simp; (first | intro b w1 sh | intro w1 sh); have F := sh.fx)
        | fail)
    go_ret2
    exact ⟨rfl, sh.below⟩

theorem Tryd.z_row (W : World) : (zeroValue 51).run Tryd.prog W = .ok (.slice none 0 0) W := by kernel_rfl
def EvP.AddI (bx : Nat) (l : List UInt8) (w0 : World) (H : List Hp.Blk) (D : World → Prop) (e : Ending) (w' : World) : Prop := ∃ v R, e = .returned (.tuple #[]) ∧ Hp.Sh w0 w' ((bx, #[v], 51) :: (H ++ R)) D ∧ Hp.RowIs 5 1 v l.length (bcells l) R
theorem eput1i (x : Int) (h0 : 0 ≤ x) (h1 : x ≤ 18446744073709551615) {w0 w : World} (H : List Hp.Blk) {R : List Hp.Blk} {D : World → Prop} {v : Value} {l : List UInt8} (bx : Nat) (sh : Hp.Sh w0 w ((bx, #[v], 51) :: (H ++ R)) D) (hr : Hp.RowIs 5 1 v l.length (bcells l) R) (hl : l.length ≤ 1000) :
    Calls Tryd.prog 58 #[.int .u64 x, .pointer (some ⟨bx, 0, none⟩)] w fun e w' => EvP.AddI bx (l ++ WireP.putL x.toNat) w0 H D e w' := by
  obtain ⟨n, rfl⟩ := Int.eq_ofNat_of_zero_le h0
  refine (eput1 n (by omega) bx (sh.perm (List.perm_append_comm (l₁ := _ :: H))) hr hl).mono ?_
  rintro e w' ⟨v', R', h1, h2, h3⟩
  exact ⟨v', R', h1, h2.perm (List.perm_append_comm (l₂ := _ :: H)), by simpa using h3⟩
set_option maxHeartbeats 4000000 in set_option maxRecDepth 100000 in
theorem eput (q t p k a b : Int) (w : World) (hq : 0 ≤ q ∧ q ≤ 18446744073709551615) (ht : -9223372036854775808 ≤ t ∧ t ≤ 9223372036854775807) (hp : -9223372036854775808 ≤ p ∧ p ≤ 9223372036854775807) (hk : -9223372036854775808 ≤ k ∧ k ≤ 9223372036854775807) (ha : -9223372036854775808 ≤ a ∧ a ≤ 9223372036854775807) (hb : -9223372036854775808 ≤ b ∧ b ≤ 9223372036854775807) : Calls Tryd.prog 37 #[.agg #[.int .u64 q, .int .i64 t, .int .i64 p, .int .i64 k, .int .i64 a, .int .i64 b]] w fun e w' => e = .returned (EvP.putV (q, t, p, k, a, b)) ∧ Below w.heap.size w w' := by
  have hmf : ∀ (fn : Fn) (first cap : Array Value) (w : World), (Instr.makeFunc fn first cap).run Tryd.prog w = .ok (.func fn first cap) w := fun _ _ _ _ => rfl
  have sh : Hp.Sh w w [] (fun _ => True) := Hp.Sh.start (fun _ _ => trivial)
  have H1 := Lib.hid (fun W => eis q t p k a b W hq ht hp hk ha hb)
  by_cases h : EvP.isB (q, t, p, k, a, b) = true
  · rw [h] at H1
    have h' := EvP.isB_iff.1 h
    have HE := Lib.hid h
    clear h
    have e0 := EvP.wrapu8 (k := k) (by omega) (by omega)
    have e2 := EvP.wrapu' (k := t) (by omega) (by omega)
    have e3 := EvP.wrapu' (k := p + 1) (by omega) (by omega)
    have e3a : IntKind.i64.wrap (p + 1) = p + 1 := EvP.wrapi (by omega) (by omega)
    have e4 := EvP.wrapu' (k := a) (by omega) (by omega)
    have e5 := EvP.wrapu' (k := b) (by omega) (by omega)
    have L1 := WireP.putL_le10 q.toNat (by omega)
    have L2 := WireP.putL_le10 t.toNat (by omega)
    have L3 := WireP.putL_le10 (p + 1).toNat (by omega)
    have L4 := WireP.putL_le10 a.toNat (by omega)
    have L5 := WireP.putL_le10 b.toNat (by omega)
    have KB := Lib.hid (show bcells [UInt8.ofNat k.toNat] = [.int .u8 k] by simp [bcells]; omega)
    have KR : ∀ g, Hp.RowIs 5 1 (.slice (some ⟨g, 0, none⟩) 1 1) 1 (bcells [UInt8.ofNat k.toNat]) [(g, #[.int .u8 k], 5)] := fun g => by
      rw [KB.out]; exact Hp.row_full (cur := #[.int .u8 k]) (by simp [maxLen]) rfl
    go_enter Tryd.func37, Tryd.ntmps37
    have tok_bx : True := trivial
    go_wp2_with (first
        | ((with_reducible first | refine Hp.wpl_box sh ?_ ?_ | refine Hp.wpa sh ?_ ?_ | refine Hp.atl_store ?_ ?_); exact rfl; (try (refine Hp.wsB sh ?_)); clear sh; (try clear F); go_simp; (first | (have tok := tok_bx; clear tok tok_bx; intro bx w1 sh) | intro b w1 sh | intro w1 sh); have F := sh.fx)
        | fail)
    go_fit (H1.out _)
    rintro e w1 ⟨rfl, hb⟩
    replace sh := sh.call hb; clear hb; (try clear F); have F := sh.fx
    have tok_bb : True := trivial
    go_wp2_with (first
        | ((with_reducible refine Hp.atl_lit ?_ ?_); exact rfl; (refine Hp.wp_lit 1 [.int .u8 k] Tryd.winfo_u8 Tryd.underlying51 sh rfl rfl (by omega) rfl ?_); clear sh; (try clear F); intro bl w1 sh; have F := sh.fx; go_simp)
        | ((with_reducible first | refine Hp.wpl_box sh ?_ ?_ | refine Hp.wpa sh ?_ ?_ | refine Hp.atl_store ?_ ?_); exact rfl; (try (refine Hp.wsB sh ?_)); clear sh; (try clear F); go_simp; (first | (have tok := tok_bb; clear tok tok_bb; intro bb w1 sh) | intro b w1 sh | intro w1 sh); have F := sh.fx)
        | fail)
    go_fit (eput1i q (by omega) (by omega) [(bx, _, _)] (l:=[UInt8.ofNat k.toNat]) bb (R:=[(bl, #[.int .u8 k], _)]) (sh.perm ((List.Perm.swap _ _ _).cons _)) (KR bl) (by simp))
    clear sh; (try clear F)
    rintro e w1 ⟨v1, R1, rfl, sh, hr⟩
    have F := sh.fx
    go_wp2_with (first
        | ((with_reducible first | refine Hp.wpl_box sh ?_ ?_ | refine Hp.wpa sh ?_ ?_ | refine Hp.atl_store ?_ ?_); exact rfl; (try (refine Hp.wsB sh ?_)); clear sh; (try clear F); go_simp; (first | intro b w1 sh | intro w1 sh); have F := sh.fx)
        | fail)
    go_fit (eput1i t (by omega) (by omega) [(bx, _, _)] bb (R:=R1) sh hr (by simp only [List.length_append, List.length_cons, List.length_nil]; omega))
    clear sh; (try clear F)
    rintro e w1 ⟨v2, R2, rfl, sh, hr⟩
    have F := sh.fx
    go_wp2_with (first
        | ((with_reducible first | refine Hp.wpl_box sh ?_ ?_ | refine Hp.wpa sh ?_ ?_ | refine Hp.atl_store ?_ ?_); exact rfl; (try (refine Hp.wsB sh ?_)); clear sh; (try clear F); go_simp; (first | intro b w1 sh | intro w1 sh); have F := sh.fx)
        | fail)
    go_fit (eput1i (p + 1) (by omega) (by omega) [(bx, _, _)] bb (R:=R2) sh hr (by simp only [List.length_append, List.length_cons, List.length_nil]; omega))
    clear sh; (try clear F)
    rintro e w1 ⟨v3, R3, rfl, sh, hr⟩
    have F := sh.fx
    go_wp2_with (first
        | ((with_reducible first | refine Hp.wpl_box sh ?_ ?_ | refine Hp.wpa sh ?_ ?_ | refine Hp.atl_store ?_ ?_); exact rfl; (try (refine Hp.wsB sh ?_)); clear sh; (try clear F); go_simp; (first | intro b w1 sh | intro w1 sh); have F := sh.fx)
        | fail)
    go_fit (eput1i a (by omega) (by omega) [(bx, _, _)] bb (R:=R3) sh hr (by simp only [List.length_append, List.length_cons, List.length_nil]; omega))
    clear sh; (try clear F)
    rintro e w1 ⟨v4, R4, rfl, sh, hr⟩
    have F := sh.fx
    go_wp2_with (first
        | ((with_reducible first | refine Hp.wpl_box sh ?_ ?_ | refine Hp.wpa sh ?_ ?_ | refine Hp.atl_store ?_ ?_); exact rfl; (try (refine Hp.wsB sh ?_)); clear sh; (try clear F); go_simp; (first | intro b w1 sh | intro w1 sh); have F := sh.fx)
        | fail)
    go_fit (eput1i b (by omega) (by omega) [(bx, _, _)] bb (R:=R4) sh hr (by simp only [List.length_append, List.length_cons, List.length_nil]; omega))
    clear sh; (try clear F)
    rintro e w1 ⟨v5, R5, rfl, sh, hr⟩
    have F := sh.fx
    obtain ⟨s5, c5, rfl, -⟩ := hr.slice
    generalize hL : [UInt8.ofNat k.toNat] ++ WireP.putL q.toNat ++ WireP.putL t.toNat ++ WireP.putL (p + 1).toNat ++ WireP.putL a.toNat ++ WireP.putL b.toNat = L at sh hr F
    have HL := Lib.hid hL
    clear hL
    have hcv := Hp.conv_rdv (P := Tryd.prog) (n := L.length) (cap := c5) (Hp.Sh.cells (sh.perm (List.perm_append_comm (l₁ := [_, _]))) hr) rfl Tryd.underlying51 Tryd.underlying5 Tryd.underlying9
    go_wp2
    go_ret2
    exact ⟨EvP.ret_put HE.out (by rw [← HL.out]; simp [EvP.putE]), sh.below⟩
  · rw [Bool.not_eq_true] at h
    rw [h] at H1
    rw [EvP.putV_no h]
    clear h
    go_enter Tryd.func37, Tryd.ntmps37
    have tok_bx : True := trivial
    go_wp2_with (first
        | ((with_reducible first | refine Hp.wpl_box sh ?_ ?_ | refine Hp.wpa sh ?_ ?_ | refine Hp.atl_store ?_ ?_); exact rfl; (try (refine Hp.wsB sh ?_)); clear sh; (try clear F); go_simp; (first | (have tok := tok_bx; clear tok tok_bx; intro bx w1 sh) | intro b w1 sh | intro w1 sh); have F := sh.fx)
        | fail)
    go_fit (H1.out _)
    rintro e w1 ⟨rfl, hb⟩
    replace sh := sh.call hb; clear hb; (try clear F); have F := sh.fx
    go_wp2_with (first
        | ((with_reducible first | refine Hp.wpl_box sh ?_ ?_ | refine Hp.wpa sh ?_ ?_ | refine Hp.atl_store ?_ ?_); exact rfl; (try (refine Hp.wsB sh ?_)); clear sh; (try clear F); go_simp; (first | intro b w1 sh | intro w1 sh); have F := sh.fx)
        | fail)
    go_ret2
    exact ⟨rfl, sh.below⟩

end Go.Proofs.YtfcffglgkblidaaDoor
