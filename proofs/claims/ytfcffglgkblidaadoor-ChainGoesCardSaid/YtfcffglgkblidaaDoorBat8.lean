
/-
  The walks of the reference's Is and Same.
-/
import Derived.Test.YtfcffglgkblidaaDoorBat7
import Derived.Test.YtfcffglgkblidaaDoorEv8
import Derived.Stop.BytesEq
namespace Go.Proofs.YtfcffglgkblidaaDoor
open Go.RowKit
set_option linter.unusedVariables false
set_option linter.unusedSimpArgs false

set_option maxHeartbeats 4000000 in
set_option maxRecDepth 100000 in
theorem bris (f : Int) (s : Option Addr) (n c : Nat) (l : List EvP.Ev) (prev : List UInt8) (hn : n = l.length) (hnc : n ≤ c) (hm : n ≤ 9223372036854775807) (hE : ∀ x ∈ l, EvP.EvB x) (w : World) (hR : Hp.RdV w s (l.flatMap EvP.evc)) :
    Calls Tryd.prog 41 #[.agg (BatP.btA f (.slice s n c) prev)] w fun e w' => e = .returned (.bool (BatP.isB (f, l, prev))) ∧ Below w.heap.size w w' := by
  have sh := (Hp.Sh.start (RdV_rob hR) : Hp.Sh w w [] (fun W => Hp.RdV W s (l.flatMap EvP.evc)))
  by_cases c1 : n < 1
  · have HV := Lib.hid (BatP.isB_no (b := (f, l, prev)) (Or.inl (by dsimp only; omega)))
    have d1 : decide ((1 : Int) ≤ (n : Int)) = false := by simp; omega
    have d2 : decide (1 ≤ n) = false := by simp; omega
    clear hn hE hR
    go_enter Tryd.func41, Tryd.ntmps41
    have F := sh.fxb
    have tok_b1 : True := trivial
    go_wp2_with (first
        | ((with_reducible first | refine Hp.wpl_box sh ?_ ?_ | refine Hp.wpa sh ?_ ?_ | refine Hp.atl_store ?_ ?_); exact rfl; (try (refine Hp.wsB sh ?_)); clear sh; (try clear F); go_simp; (first | (have tok := tok_b1; clear tok tok_b1; intro b1 w1 sh) | intro b w1 sh | intro w1 sh); have F := sh.fxb)
        | fail)
    refine Hp.region_soft (by kernel_rfl) sh (fun _ q => q) ?_; clear sh; (try clear F)
    (try simp only [Hp.p2, Hp.p3])
    (refine Hp.tks (i := 0) (oi := ⟨some 3, Op.fieldAddr 27 (Operand.tmp 1) 1, _, _, _, none⟩) (fun _ q => q) ?_)
    (refine Hp.tk (i := 1) (oi := ⟨some 4, Op.load 24 (Operand.tmp 3), _, _, _, none⟩) _ (fun _ q => q) (fun W hW => by (have F := Hp.Sh.facts hW); (have hd := Hp.Sh.data hW); (try simp only [Hp.Facts, Hp.CellsAt, BatP.cellsAt_bt, Nat.reduceAdd, Hp.c1, Hp.c2] at F); skip; go_simp; (try with_reducible rfl)) ?_)
    (refine Hp.tks (i := 2) (oi := ⟨some 5, Op.call { callee := Callee.builtin Builtin.len, args := #[Operand.tmp 4], argTypes := #[24] }, _, _, _, none⟩) (fun _ q => q) ?_)
    (refine Hp.tks (i := 3) (oi := ⟨some 6, Op.binOp BinOp.geq 3 (Operand.tmp 5) (Operand.const (Value.int IntKind.i64 1)) 3, _, _, _, none⟩) (fun _ q => q) ?_)
    (refine Hp.tks (i := 4) (oi := ⟨some 7, Op.move (Operand.tmp 6), _, _, _, none⟩) (fun _ q => q) ?_)
    (first | (refine Hp.tks (i := 5) (oi := ⟨some 8, Op.fieldAddr 27 (Operand.tmp 1) 1, _, _, _, some (4, true)⟩) (fun _ q => q) ?_) | (refine Hp.skp (i := 5) (oi := ⟨some 8, Op.fieldAddr 27 (Operand.tmp 1) 1, _, _, _, some (4, true)⟩) (fun _ q => q) ?_))
    (first | (refine Hp.tk (i := 6) (oi := ⟨some 9, Op.load 24 (Operand.tmp 8), _, _, _, some (4, true)⟩) _ (fun _ q => q) (fun W hW => by (have F := Hp.Sh.facts hW); (have hd := Hp.Sh.data hW); (try simp only [Hp.Facts, Hp.CellsAt, BatP.cellsAt_bt, Nat.reduceAdd, Hp.c1, Hp.c2] at F); skip; go_simp; (try with_reducible rfl)) ?_) | (refine Hp.skp (i := 6) (oi := ⟨some 9, Op.load 24 (Operand.tmp 8), _, _, _, some (4, true)⟩) (fun _ q => q) ?_))
    (first | (refine Hp.tks (i := 7) (oi := ⟨some 10, Op.call { callee := Callee.builtin Builtin.len, args := #[Operand.tmp 9], argTypes := #[24] }, _, _, _, some (4, true)⟩) (fun _ q => q) ?_) | (refine Hp.skp (i := 7) (oi := ⟨some 10, Op.call { callee := Callee.builtin Builtin.len, args := #[Operand.tmp 9], argTypes := #[24] }, _, _, _, some (4, true)⟩) (fun _ q => q) ?_))
    (first | (refine Hp.tks (i := 8) (oi := ⟨some 11, Op.binOp BinOp.leq 3 (Operand.tmp 10) (Operand.const (Value.int IntKind.i64 256)) 3, _, _, _, some (4, true)⟩) (fun _ q => q) ?_) | (refine Hp.skp (i := 8) (oi := ⟨some 11, Op.binOp BinOp.leq 3 (Operand.tmp 10) (Operand.const (Value.int IntKind.i64 256)) 3, _, _, _, some (4, true)⟩) (fun _ q => q) ?_))
    (refine Hp.tks (i := 9) (oi := ⟨some 12, Op.pick (Operand.tmp 7) (Operand.tmp 11) (Operand.const (Value.bool false)), _, _, _, none⟩) (fun _ q => q) ?_)
    (refine Hp.tks (i := 10) (oi := ⟨some 13, Op.move (Operand.tmp 12), _, _, _, none⟩) (fun _ q => q) ?_)
    (first | (refine Hp.tks (i := 11) (oi := ⟨some 14, Op.fieldAddr 27 (Operand.tmp 1) 1, _, _, _, some (10, true)⟩) (fun _ q => q) ?_) | (refine Hp.skp (i := 11) (oi := ⟨some 14, Op.fieldAddr 27 (Operand.tmp 1) 1, _, _, _, some (10, true)⟩) (fun _ q => q) ?_))
    (first | (refine Hp.tk (i := 12) (oi := ⟨some 15, Op.load 24 (Operand.tmp 14), _, _, _, some (10, true)⟩) _ (fun _ q => q) (fun W hW => by (have F := Hp.Sh.facts hW); (have hd := Hp.Sh.data hW); (try simp only [Hp.Facts, Hp.CellsAt, BatP.cellsAt_bt, Nat.reduceAdd, Hp.c1, Hp.c2] at F); skip; go_simp; (try with_reducible rfl)) ?_) | (refine Hp.skp (i := 12) (oi := ⟨some 15, Op.load 24 (Operand.tmp 14), _, _, _, some (10, true)⟩) (fun _ q => q) ?_))
    (first | (refine Hp.cl (i := 13) (oi := ⟨some 16, Op.call { callee := Callee.value (Operand.func 63), args := #[Operand.tmp 15], argTypes := #[24] }, _, _, _, some (10, true)⟩) _ _ _ (fun _ q => q) (fun W hW => by go_simp) (fun W hW => (hW)) ?_) | (refine Hp.skp (i := 13) (oi := ⟨some 16, Op.call { callee := Callee.value (Operand.func 63), args := #[Operand.tmp 15], argTypes := #[24] }, _, _, _, some (10, true)⟩) (fun _ q => q) ?_))
    (refine Hp.tks (i := 14) (oi := ⟨some 17, Op.pick (Operand.tmp 13) (Operand.tmp 16) (Operand.const (Value.bool false)), _, _, _, none⟩) (fun _ q => q) ?_)
    (refine Hp.tks (i := 15) (oi := ⟨some 18, Op.move (Operand.tmp 17), _, _, _, none⟩) (fun _ q => q) ?_)
    (first | (refine Hp.tks (i := 16) (oi := ⟨some 19, Op.fieldAddr 27 (Operand.tmp 1) 1, _, _, _, some (15, true)⟩) (fun _ q => q) ?_) | (refine Hp.skp (i := 16) (oi := ⟨some 19, Op.fieldAddr 27 (Operand.tmp 1) 1, _, _, _, some (15, true)⟩) (fun _ q => q) ?_))
    (first | (refine Hp.tk (i := 17) (oi := ⟨some 20, Op.load 24 (Operand.tmp 19), _, _, _, some (15, true)⟩) _ (fun _ q => q) (fun W hW => by (have F := Hp.Sh.facts hW); (have hd := Hp.Sh.data hW); (try simp only [Hp.Facts, Hp.CellsAt, BatP.cellsAt_bt, Nat.reduceAdd, Hp.c1, Hp.c2] at F); skip; go_simp; (try with_reducible rfl)) ?_) | (refine Hp.skp (i := 17) (oi := ⟨some 20, Op.load 24 (Operand.tmp 19), _, _, _, some (15, true)⟩) (fun _ q => q) ?_))
    (first | (refine Hp.tks (i := 18) (oi := ⟨some 21, Op.indexAddr 24 (Operand.tmp 20) (Operand.const (Value.int IntKind.i64 0)), _, _, _, some (15, true)⟩) (fun _ q => q) ?_) | (refine Hp.skp (i := 18) (oi := ⟨some 21, Op.indexAddr 24 (Operand.tmp 20) (Operand.const (Value.int IntKind.i64 0)), _, _, _, some (15, true)⟩) (fun _ q => q) ?_))
    (first | (refine Hp.tks (i := 19) (oi := ⟨some 22, Op.fieldAddr 47 (Operand.tmp 21) 0, _, _, _, some (15, true)⟩) (fun _ q => q) ?_) | (refine Hp.skp (i := 19) (oi := ⟨some 22, Op.fieldAddr 47 (Operand.tmp 21) 0, _, _, _, some (15, true)⟩) (fun _ q => q) ?_))
    (first | (refine Hp.tk (i := 20) (oi := ⟨some 23, Op.load 25 (Operand.tmp 22), _, _, _, some (15, true)⟩) _ (fun _ q => q) (fun W hW => by (have F := Hp.Sh.facts hW); (have hd := Hp.Sh.data hW); (try simp only [Hp.Facts, Hp.CellsAt, BatP.cellsAt_bt, Nat.reduceAdd, Hp.c1, Hp.c2] at F); skip; go_simp; (try with_reducible rfl)) ?_) | (refine Hp.skp (i := 20) (oi := ⟨some 23, Op.load 25 (Operand.tmp 22), _, _, _, some (15, true)⟩) (fun _ q => q) ?_))
    (first | (refine Hp.tks (i := 21) (oi := ⟨some 24, Op.fieldAddr 27 (Operand.tmp 1) 0, _, _, _, some (15, true)⟩) (fun _ q => q) ?_) | (refine Hp.skp (i := 21) (oi := ⟨some 24, Op.fieldAddr 27 (Operand.tmp 1) 0, _, _, _, some (15, true)⟩) (fun _ q => q) ?_))
    (first | (refine Hp.tk (i := 22) (oi := ⟨some 25, Op.load 25 (Operand.tmp 24), _, _, _, some (15, true)⟩) _ (fun _ q => q) (fun W hW => by (have F := Hp.Sh.facts hW); (have hd := Hp.Sh.data hW); (try simp only [Hp.Facts, Hp.CellsAt, BatP.cellsAt_bt, Nat.reduceAdd, Hp.c1, Hp.c2] at F); skip; go_simp; (try with_reducible rfl)) ?_) | (refine Hp.skp (i := 22) (oi := ⟨some 25, Op.load 25 (Operand.tmp 24), _, _, _, some (15, true)⟩) (fun _ q => q) ?_))
    (first | (refine Hp.tks (i := 23) (oi := ⟨some 26, Op.binOp BinOp.eql 25 (Operand.tmp 23) (Operand.tmp 25) 25, _, _, _, some (15, true)⟩) (fun _ q => q) ?_) | (refine Hp.skp (i := 23) (oi := ⟨some 26, Op.binOp BinOp.eql 25 (Operand.tmp 23) (Operand.tmp 25) 25, _, _, _, some (15, true)⟩) (fun _ q => q) ?_))
    (refine Hp.tks (i := 24) (oi := ⟨some 27, Op.pick (Operand.tmp 18) (Operand.tmp 26) (Operand.const (Value.bool false)), _, _, _, none⟩) (fun _ q => q) ?_)
    (refine Hp.tks (i := 25) (oi := ⟨some 2, Op.assign (Operand.tmp 27), _, _, _, none⟩) (fun _ q => q) ?_)
    refine Hp.soft_done (by kernel_rfl) (fun w1 sh => ?_) _; (try clear F); (try have F := Hp.Sh.facts sh); (try simp only [Hp.Facts, Hp.CellsAt, BatP.cellsAt_bt, Nat.reduceAdd, Hp.c1, Hp.c2] at F)
    go_wp2_with (first
        | ((with_reducible first | refine Hp.wpl_box sh ?_ ?_ | refine Hp.wpa sh ?_ ?_ | refine Hp.atl_store ?_ ?_); exact rfl; (try (refine Hp.wsB sh ?_)); clear sh; (try clear F); go_simp; (first | intro b w1 sh | intro w1 sh); have F := sh.fxb)
        | fail)
    go_ret
    exact ⟨by rw [HV.out]; rfl, sh.below⟩
  have d1 : decide ((1 : Int) ≤ (n : Int)) = true := by simp; omega
  have d2 : decide (1 ≤ n) = true := by simp; omega
  by_cases c2 : 256 < n
  · have HV := Lib.hid (BatP.isB_no (b := (f, l, prev)) (Or.inr (Or.inl (by dsimp only; omega))))
    have d3 : decide ((n : Int) ≤ (256 : Int)) = false := by simp; omega
    have d4 : decide (n ≤ 256) = false := by simp; omega
    clear hn hE hR
    go_enter Tryd.func41, Tryd.ntmps41
    have F := sh.fxb
    have tok_b1 : True := trivial
    go_wp2_with (first
        | ((with_reducible first | refine Hp.wpl_box sh ?_ ?_ | refine Hp.wpa sh ?_ ?_ | refine Hp.atl_store ?_ ?_); exact rfl; (try (refine Hp.wsB sh ?_)); clear sh; (try clear F); go_simp; (first | (have tok := tok_b1; clear tok tok_b1; intro b1 w1 sh) | intro b w1 sh | intro w1 sh); have F := sh.fxb)
        | fail)
    refine Hp.region_soft (by kernel_rfl) sh (fun _ q => q) ?_; clear sh; (try clear F)
    (try simp only [Hp.p2, Hp.p3])
    (refine Hp.tks (i := 0) (oi := ⟨some 3, Op.fieldAddr 27 (Operand.tmp 1) 1, _, _, _, none⟩) (fun _ q => q) ?_)
    (refine Hp.tk (i := 1) (oi := ⟨some 4, Op.load 24 (Operand.tmp 3), _, _, _, none⟩) _ (fun _ q => q) (fun W hW => by (have F := Hp.Sh.facts hW); (have hd := Hp.Sh.data hW); (try simp only [Hp.Facts, Hp.CellsAt, BatP.cellsAt_bt, Nat.reduceAdd, Hp.c1, Hp.c2] at F); skip; go_simp; (try with_reducible rfl)) ?_)
    (refine Hp.tks (i := 2) (oi := ⟨some 5, Op.call { callee := Callee.builtin Builtin.len, args := #[Operand.tmp 4], argTypes := #[24] }, _, _, _, none⟩) (fun _ q => q) ?_)
    (refine Hp.tks (i := 3) (oi := ⟨some 6, Op.binOp BinOp.geq 3 (Operand.tmp 5) (Operand.const (Value.int IntKind.i64 1)) 3, _, _, _, none⟩) (fun _ q => q) ?_)
    (refine Hp.tks (i := 4) (oi := ⟨some 7, Op.move (Operand.tmp 6), _, _, _, none⟩) (fun _ q => q) ?_)
    (first | (refine Hp.tks (i := 5) (oi := ⟨some 8, Op.fieldAddr 27 (Operand.tmp 1) 1, _, _, _, some (4, true)⟩) (fun _ q => q) ?_) | (refine Hp.skp (i := 5) (oi := ⟨some 8, Op.fieldAddr 27 (Operand.tmp 1) 1, _, _, _, some (4, true)⟩) (fun _ q => q) ?_))
    (first | (refine Hp.tk (i := 6) (oi := ⟨some 9, Op.load 24 (Operand.tmp 8), _, _, _, some (4, true)⟩) _ (fun _ q => q) (fun W hW => by (have F := Hp.Sh.facts hW); (have hd := Hp.Sh.data hW); (try simp only [Hp.Facts, Hp.CellsAt, BatP.cellsAt_bt, Nat.reduceAdd, Hp.c1, Hp.c2] at F); skip; go_simp; (try with_reducible rfl)) ?_) | (refine Hp.skp (i := 6) (oi := ⟨some 9, Op.load 24 (Operand.tmp 8), _, _, _, some (4, true)⟩) (fun _ q => q) ?_))
    (first | (refine Hp.tks (i := 7) (oi := ⟨some 10, Op.call { callee := Callee.builtin Builtin.len, args := #[Operand.tmp 9], argTypes := #[24] }, _, _, _, some (4, true)⟩) (fun _ q => q) ?_) | (refine Hp.skp (i := 7) (oi := ⟨some 10, Op.call { callee := Callee.builtin Builtin.len, args := #[Operand.tmp 9], argTypes := #[24] }, _, _, _, some (4, true)⟩) (fun _ q => q) ?_))
    (first | (refine Hp.tks (i := 8) (oi := ⟨some 11, Op.binOp BinOp.leq 3 (Operand.tmp 10) (Operand.const (Value.int IntKind.i64 256)) 3, _, _, _, some (4, true)⟩) (fun _ q => q) ?_) | (refine Hp.skp (i := 8) (oi := ⟨some 11, Op.binOp BinOp.leq 3 (Operand.tmp 10) (Operand.const (Value.int IntKind.i64 256)) 3, _, _, _, some (4, true)⟩) (fun _ q => q) ?_))
    (refine Hp.tks (i := 9) (oi := ⟨some 12, Op.pick (Operand.tmp 7) (Operand.tmp 11) (Operand.const (Value.bool false)), _, _, _, none⟩) (fun _ q => q) ?_)
    (refine Hp.tks (i := 10) (oi := ⟨some 13, Op.move (Operand.tmp 12), _, _, _, none⟩) (fun _ q => q) ?_)
    (first | (refine Hp.tks (i := 11) (oi := ⟨some 14, Op.fieldAddr 27 (Operand.tmp 1) 1, _, _, _, some (10, true)⟩) (fun _ q => q) ?_) | (refine Hp.skp (i := 11) (oi := ⟨some 14, Op.fieldAddr 27 (Operand.tmp 1) 1, _, _, _, some (10, true)⟩) (fun _ q => q) ?_))
    (first | (refine Hp.tk (i := 12) (oi := ⟨some 15, Op.load 24 (Operand.tmp 14), _, _, _, some (10, true)⟩) _ (fun _ q => q) (fun W hW => by (have F := Hp.Sh.facts hW); (have hd := Hp.Sh.data hW); (try simp only [Hp.Facts, Hp.CellsAt, BatP.cellsAt_bt, Nat.reduceAdd, Hp.c1, Hp.c2] at F); skip; go_simp; (try with_reducible rfl)) ?_) | (refine Hp.skp (i := 12) (oi := ⟨some 15, Op.load 24 (Operand.tmp 14), _, _, _, some (10, true)⟩) (fun _ q => q) ?_))
    (first | (refine Hp.cl (i := 13) (oi := ⟨some 16, Op.call { callee := Callee.value (Operand.func 63), args := #[Operand.tmp 15], argTypes := #[24] }, _, _, _, some (10, true)⟩) _ _ _ (fun _ q => q) (fun W hW => by go_simp) (fun W hW => (hW)) ?_) | (refine Hp.skp (i := 13) (oi := ⟨some 16, Op.call { callee := Callee.value (Operand.func 63), args := #[Operand.tmp 15], argTypes := #[24] }, _, _, _, some (10, true)⟩) (fun _ q => q) ?_))
    (refine Hp.tks (i := 14) (oi := ⟨some 17, Op.pick (Operand.tmp 13) (Operand.tmp 16) (Operand.const (Value.bool false)), _, _, _, none⟩) (fun _ q => q) ?_)
    (refine Hp.tks (i := 15) (oi := ⟨some 18, Op.move (Operand.tmp 17), _, _, _, none⟩) (fun _ q => q) ?_)
    (first | (refine Hp.tks (i := 16) (oi := ⟨some 19, Op.fieldAddr 27 (Operand.tmp 1) 1, _, _, _, some (15, true)⟩) (fun _ q => q) ?_) | (refine Hp.skp (i := 16) (oi := ⟨some 19, Op.fieldAddr 27 (Operand.tmp 1) 1, _, _, _, some (15, true)⟩) (fun _ q => q) ?_))
    (first | (refine Hp.tk (i := 17) (oi := ⟨some 20, Op.load 24 (Operand.tmp 19), _, _, _, some (15, true)⟩) _ (fun _ q => q) (fun W hW => by (have F := Hp.Sh.facts hW); (have hd := Hp.Sh.data hW); (try simp only [Hp.Facts, Hp.CellsAt, BatP.cellsAt_bt, Nat.reduceAdd, Hp.c1, Hp.c2] at F); skip; go_simp; (try with_reducible rfl)) ?_) | (refine Hp.skp (i := 17) (oi := ⟨some 20, Op.load 24 (Operand.tmp 19), _, _, _, some (15, true)⟩) (fun _ q => q) ?_))
    (first | (refine Hp.tks (i := 18) (oi := ⟨some 21, Op.indexAddr 24 (Operand.tmp 20) (Operand.const (Value.int IntKind.i64 0)), _, _, _, some (15, true)⟩) (fun _ q => q) ?_) | (refine Hp.skp (i := 18) (oi := ⟨some 21, Op.indexAddr 24 (Operand.tmp 20) (Operand.const (Value.int IntKind.i64 0)), _, _, _, some (15, true)⟩) (fun _ q => q) ?_))
    (first | (refine Hp.tks (i := 19) (oi := ⟨some 22, Op.fieldAddr 47 (Operand.tmp 21) 0, _, _, _, some (15, true)⟩) (fun _ q => q) ?_) | (refine Hp.skp (i := 19) (oi := ⟨some 22, Op.fieldAddr 47 (Operand.tmp 21) 0, _, _, _, some (15, true)⟩) (fun _ q => q) ?_))
    (first | (refine Hp.tk (i := 20) (oi := ⟨some 23, Op.load 25 (Operand.tmp 22), _, _, _, some (15, true)⟩) _ (fun _ q => q) (fun W hW => by (have F := Hp.Sh.facts hW); (have hd := Hp.Sh.data hW); (try simp only [Hp.Facts, Hp.CellsAt, BatP.cellsAt_bt, Nat.reduceAdd, Hp.c1, Hp.c2] at F); skip; go_simp; (try with_reducible rfl)) ?_) | (refine Hp.skp (i := 20) (oi := ⟨some 23, Op.load 25 (Operand.tmp 22), _, _, _, some (15, true)⟩) (fun _ q => q) ?_))
    (first | (refine Hp.tks (i := 21) (oi := ⟨some 24, Op.fieldAddr 27 (Operand.tmp 1) 0, _, _, _, some (15, true)⟩) (fun _ q => q) ?_) | (refine Hp.skp (i := 21) (oi := ⟨some 24, Op.fieldAddr 27 (Operand.tmp 1) 0, _, _, _, some (15, true)⟩) (fun _ q => q) ?_))
    (first | (refine Hp.tk (i := 22) (oi := ⟨some 25, Op.load 25 (Operand.tmp 24), _, _, _, some (15, true)⟩) _ (fun _ q => q) (fun W hW => by (have F := Hp.Sh.facts hW); (have hd := Hp.Sh.data hW); (try simp only [Hp.Facts, Hp.CellsAt, BatP.cellsAt_bt, Nat.reduceAdd, Hp.c1, Hp.c2] at F); skip; go_simp; (try with_reducible rfl)) ?_) | (refine Hp.skp (i := 22) (oi := ⟨some 25, Op.load 25 (Operand.tmp 24), _, _, _, some (15, true)⟩) (fun _ q => q) ?_))
    (first | (refine Hp.tks (i := 23) (oi := ⟨some 26, Op.binOp BinOp.eql 25 (Operand.tmp 23) (Operand.tmp 25) 25, _, _, _, some (15, true)⟩) (fun _ q => q) ?_) | (refine Hp.skp (i := 23) (oi := ⟨some 26, Op.binOp BinOp.eql 25 (Operand.tmp 23) (Operand.tmp 25) 25, _, _, _, some (15, true)⟩) (fun _ q => q) ?_))
    (refine Hp.tks (i := 24) (oi := ⟨some 27, Op.pick (Operand.tmp 18) (Operand.tmp 26) (Operand.const (Value.bool false)), _, _, _, none⟩) (fun _ q => q) ?_)
    (refine Hp.tks (i := 25) (oi := ⟨some 2, Op.assign (Operand.tmp 27), _, _, _, none⟩) (fun _ q => q) ?_)
    refine Hp.soft_done (by kernel_rfl) (fun w1 sh => ?_) _; (try clear F); (try have F := Hp.Sh.facts sh); (try simp only [Hp.Facts, Hp.CellsAt, BatP.cellsAt_bt, Nat.reduceAdd, Hp.c1, Hp.c2] at F)
    go_wp2_with (first
        | ((with_reducible first | refine Hp.wpl_box sh ?_ ?_ | refine Hp.wpa sh ?_ ?_ | refine Hp.atl_store ?_ ?_); exact rfl; (try (refine Hp.wsB sh ?_)); clear sh; (try clear F); go_simp; (first | intro b w1 sh | intro w1 sh); have F := sh.fxb)
        | fail)
    go_ret
    exact ⟨by rw [HV.out]; rfl, sh.below⟩
  have d3 : decide ((n : Int) ≤ (256 : Int)) = true := by simp; omega
  have d4 : decide (n ≤ 256) = true := by simp; omega
  have K1 := Lib.hid (fun W q => errun s l n c hn hnc (by omega) hE W q)
  cases hr : EvP.runB l with
  | false =>
    have HV := Lib.hid (BatP.isB_no (b := (f, l, prev)) (Or.inr (Or.inr hr)))
    rw [hr] at K1
    clear hn hE hR hr
    go_enter Tryd.func41, Tryd.ntmps41
    have F := sh.fxb
    have tok_b1 : True := trivial
    go_wp2_with (first
        | ((with_reducible first | refine Hp.wpl_box sh ?_ ?_ | refine Hp.wpa sh ?_ ?_ | refine Hp.atl_store ?_ ?_); exact rfl; (try (refine Hp.wsB sh ?_)); clear sh; (try clear F); go_simp; (first | (have tok := tok_b1; clear tok tok_b1; intro b1 w1 sh) | intro b w1 sh | intro w1 sh); have F := sh.fxb)
        | fail)
    refine Hp.region_soft (by kernel_rfl) sh (fun _ q => q) ?_; clear sh; (try clear F)
    (try simp only [Hp.p2, Hp.p3])
    (refine Hp.tks (i := 0) (oi := ⟨some 3, Op.fieldAddr 27 (Operand.tmp 1) 1, _, _, _, none⟩) (fun _ q => q) ?_)
    (refine Hp.tk (i := 1) (oi := ⟨some 4, Op.load 24 (Operand.tmp 3), _, _, _, none⟩) _ (fun _ q => q) (fun W hW => by (have F := Hp.Sh.facts hW); (have hd := Hp.Sh.data hW); (try simp only [Hp.Facts, Hp.CellsAt, BatP.cellsAt_bt, Nat.reduceAdd, Hp.c1, Hp.c2] at F); skip; go_simp; (try with_reducible rfl)) ?_)
    (refine Hp.tks (i := 2) (oi := ⟨some 5, Op.call { callee := Callee.builtin Builtin.len, args := #[Operand.tmp 4], argTypes := #[24] }, _, _, _, none⟩) (fun _ q => q) ?_)
    (refine Hp.tks (i := 3) (oi := ⟨some 6, Op.binOp BinOp.geq 3 (Operand.tmp 5) (Operand.const (Value.int IntKind.i64 1)) 3, _, _, _, none⟩) (fun _ q => q) ?_)
    (refine Hp.tks (i := 4) (oi := ⟨some 7, Op.move (Operand.tmp 6), _, _, _, none⟩) (fun _ q => q) ?_)
    (first | (refine Hp.tks (i := 5) (oi := ⟨some 8, Op.fieldAddr 27 (Operand.tmp 1) 1, _, _, _, some (4, true)⟩) (fun _ q => q) ?_) | (refine Hp.skp (i := 5) (oi := ⟨some 8, Op.fieldAddr 27 (Operand.tmp 1) 1, _, _, _, some (4, true)⟩) (fun _ q => q) ?_))
    (first | (refine Hp.tk (i := 6) (oi := ⟨some 9, Op.load 24 (Operand.tmp 8), _, _, _, some (4, true)⟩) _ (fun _ q => q) (fun W hW => by (have F := Hp.Sh.facts hW); (have hd := Hp.Sh.data hW); (try simp only [Hp.Facts, Hp.CellsAt, BatP.cellsAt_bt, Nat.reduceAdd, Hp.c1, Hp.c2] at F); skip; go_simp; (try with_reducible rfl)) ?_) | (refine Hp.skp (i := 6) (oi := ⟨some 9, Op.load 24 (Operand.tmp 8), _, _, _, some (4, true)⟩) (fun _ q => q) ?_))
    (first | (refine Hp.tks (i := 7) (oi := ⟨some 10, Op.call { callee := Callee.builtin Builtin.len, args := #[Operand.tmp 9], argTypes := #[24] }, _, _, _, some (4, true)⟩) (fun _ q => q) ?_) | (refine Hp.skp (i := 7) (oi := ⟨some 10, Op.call { callee := Callee.builtin Builtin.len, args := #[Operand.tmp 9], argTypes := #[24] }, _, _, _, some (4, true)⟩) (fun _ q => q) ?_))
    (first | (refine Hp.tks (i := 8) (oi := ⟨some 11, Op.binOp BinOp.leq 3 (Operand.tmp 10) (Operand.const (Value.int IntKind.i64 256)) 3, _, _, _, some (4, true)⟩) (fun _ q => q) ?_) | (refine Hp.skp (i := 8) (oi := ⟨some 11, Op.binOp BinOp.leq 3 (Operand.tmp 10) (Operand.const (Value.int IntKind.i64 256)) 3, _, _, _, some (4, true)⟩) (fun _ q => q) ?_))
    (refine Hp.tks (i := 9) (oi := ⟨some 12, Op.pick (Operand.tmp 7) (Operand.tmp 11) (Operand.const (Value.bool false)), _, _, _, none⟩) (fun _ q => q) ?_)
    (refine Hp.tks (i := 10) (oi := ⟨some 13, Op.move (Operand.tmp 12), _, _, _, none⟩) (fun _ q => q) ?_)
    (first | (refine Hp.tks (i := 11) (oi := ⟨some 14, Op.fieldAddr 27 (Operand.tmp 1) 1, _, _, _, some (10, true)⟩) (fun _ q => q) ?_) | (refine Hp.skp (i := 11) (oi := ⟨some 14, Op.fieldAddr 27 (Operand.tmp 1) 1, _, _, _, some (10, true)⟩) (fun _ q => q) ?_))
    (first | (refine Hp.tk (i := 12) (oi := ⟨some 15, Op.load 24 (Operand.tmp 14), _, _, _, some (10, true)⟩) _ (fun _ q => q) (fun W hW => by (have F := Hp.Sh.facts hW); (have hd := Hp.Sh.data hW); (try simp only [Hp.Facts, Hp.CellsAt, BatP.cellsAt_bt, Nat.reduceAdd, Hp.c1, Hp.c2] at F); skip; go_simp; (try with_reducible rfl)) ?_) | (refine Hp.skp (i := 12) (oi := ⟨some 15, Op.load 24 (Operand.tmp 14), _, _, _, some (10, true)⟩) (fun _ q => q) ?_))
    (first | (refine Hp.cl (i := 13) (oi := ⟨some 16, Op.call { callee := Callee.value (Operand.func 63), args := #[Operand.tmp 15], argTypes := #[24] }, _, _, _, some (10, true)⟩) _ _ _ (fun _ q => q) (fun W hW => by go_simp) (fun W hW => (K1.out W hW.data)) ?_) | (refine Hp.skp (i := 13) (oi := ⟨some 16, Op.call { callee := Callee.value (Operand.func 63), args := #[Operand.tmp 15], argTypes := #[24] }, _, _, _, some (10, true)⟩) (fun _ q => q) ?_))
    (refine Hp.tks (i := 14) (oi := ⟨some 17, Op.pick (Operand.tmp 13) (Operand.tmp 16) (Operand.const (Value.bool false)), _, _, _, none⟩) (fun _ q => q) ?_)
    (refine Hp.tks (i := 15) (oi := ⟨some 18, Op.move (Operand.tmp 17), _, _, _, none⟩) (fun _ q => q) ?_)
    (first | (refine Hp.tks (i := 16) (oi := ⟨some 19, Op.fieldAddr 27 (Operand.tmp 1) 1, _, _, _, some (15, true)⟩) (fun _ q => q) ?_) | (refine Hp.skp (i := 16) (oi := ⟨some 19, Op.fieldAddr 27 (Operand.tmp 1) 1, _, _, _, some (15, true)⟩) (fun _ q => q) ?_))
    (first | (refine Hp.tk (i := 17) (oi := ⟨some 20, Op.load 24 (Operand.tmp 19), _, _, _, some (15, true)⟩) _ (fun _ q => q) (fun W hW => by (have F := Hp.Sh.facts hW); (have hd := Hp.Sh.data hW); (try simp only [Hp.Facts, Hp.CellsAt, BatP.cellsAt_bt, Nat.reduceAdd, Hp.c1, Hp.c2] at F); skip; go_simp; (try with_reducible rfl)) ?_) | (refine Hp.skp (i := 17) (oi := ⟨some 20, Op.load 24 (Operand.tmp 19), _, _, _, some (15, true)⟩) (fun _ q => q) ?_))
    (first | (refine Hp.tks (i := 18) (oi := ⟨some 21, Op.indexAddr 24 (Operand.tmp 20) (Operand.const (Value.int IntKind.i64 0)), _, _, _, some (15, true)⟩) (fun _ q => q) ?_) | (refine Hp.skp (i := 18) (oi := ⟨some 21, Op.indexAddr 24 (Operand.tmp 20) (Operand.const (Value.int IntKind.i64 0)), _, _, _, some (15, true)⟩) (fun _ q => q) ?_))
    (first | (refine Hp.tks (i := 19) (oi := ⟨some 22, Op.fieldAddr 47 (Operand.tmp 21) 0, _, _, _, some (15, true)⟩) (fun _ q => q) ?_) | (refine Hp.skp (i := 19) (oi := ⟨some 22, Op.fieldAddr 47 (Operand.tmp 21) 0, _, _, _, some (15, true)⟩) (fun _ q => q) ?_))
    (first | (refine Hp.tk (i := 20) (oi := ⟨some 23, Op.load 25 (Operand.tmp 22), _, _, _, some (15, true)⟩) _ (fun _ q => q) (fun W hW => by (have F := Hp.Sh.facts hW); (have hd := Hp.Sh.data hW); (try simp only [Hp.Facts, Hp.CellsAt, BatP.cellsAt_bt, Nat.reduceAdd, Hp.c1, Hp.c2] at F); skip; go_simp; (try with_reducible rfl)) ?_) | (refine Hp.skp (i := 20) (oi := ⟨some 23, Op.load 25 (Operand.tmp 22), _, _, _, some (15, true)⟩) (fun _ q => q) ?_))
    (first | (refine Hp.tks (i := 21) (oi := ⟨some 24, Op.fieldAddr 27 (Operand.tmp 1) 0, _, _, _, some (15, true)⟩) (fun _ q => q) ?_) | (refine Hp.skp (i := 21) (oi := ⟨some 24, Op.fieldAddr 27 (Operand.tmp 1) 0, _, _, _, some (15, true)⟩) (fun _ q => q) ?_))
    (first | (refine Hp.tk (i := 22) (oi := ⟨some 25, Op.load 25 (Operand.tmp 24), _, _, _, some (15, true)⟩) _ (fun _ q => q) (fun W hW => by (have F := Hp.Sh.facts hW); (have hd := Hp.Sh.data hW); (try simp only [Hp.Facts, Hp.CellsAt, BatP.cellsAt_bt, Nat.reduceAdd, Hp.c1, Hp.c2] at F); skip; go_simp; (try with_reducible rfl)) ?_) | (refine Hp.skp (i := 22) (oi := ⟨some 25, Op.load 25 (Operand.tmp 24), _, _, _, some (15, true)⟩) (fun _ q => q) ?_))
    (first | (refine Hp.tks (i := 23) (oi := ⟨some 26, Op.binOp BinOp.eql 25 (Operand.tmp 23) (Operand.tmp 25) 25, _, _, _, some (15, true)⟩) (fun _ q => q) ?_) | (refine Hp.skp (i := 23) (oi := ⟨some 26, Op.binOp BinOp.eql 25 (Operand.tmp 23) (Operand.tmp 25) 25, _, _, _, some (15, true)⟩) (fun _ q => q) ?_))
    (refine Hp.tks (i := 24) (oi := ⟨some 27, Op.pick (Operand.tmp 18) (Operand.tmp 26) (Operand.const (Value.bool false)), _, _, _, none⟩) (fun _ q => q) ?_)
    (refine Hp.tks (i := 25) (oi := ⟨some 2, Op.assign (Operand.tmp 27), _, _, _, none⟩) (fun _ q => q) ?_)
    refine Hp.soft_done (by kernel_rfl) (fun w1 sh => ?_) _; (try clear F); (try have F := Hp.Sh.facts sh); (try simp only [Hp.Facts, Hp.CellsAt, BatP.cellsAt_bt, Nat.reduceAdd, Hp.c1, Hp.c2] at F)
    go_wp2_with (first
        | ((with_reducible first | refine Hp.wpl_box sh ?_ ?_ | refine Hp.wpa sh ?_ ?_ | refine Hp.atl_store ?_ ?_); exact rfl; (try (refine Hp.wsB sh ?_)); clear sh; (try clear F); go_simp; (first | intro b w1 sh | intro w1 sh); have F := sh.fxb)
        | fail)
    go_ret
    exact ⟨by rw [HV.out]; rfl, sh.below⟩
  | true =>
    rw [hr] at K1
    have h0 : 0 < l.length := by omega
    obtain ⟨p9, hp9, -⟩ := hR (Hp.flat_pos EvP.evc_len (by decide) h0)
    subst hp9
    rcases hx : l[0] with ⟨q, t, p, k, a, b⟩
    have HV := Lib.hid (BatP.isB_run (b := (f, l, prev)) (q := q) (by dsimp only; omega) (by dsimp only; omega) hr (by dsimp only; rw [List.getD_eq_getElem?_getD, List.getElem?_eq_getElem h0, hx]; rfl))
    have HX := Lib.hid hx
    have HC := Lib.hid (fun W (q : Hp.RdV W (some p9) (l.flatMap EvP.evc)) => EvP.ev_cells q h0 HX.out)
    have hnI : (0 : Int) < (n : Int) := by omega
    have hnN : 0 < n := by omega
    clear hn hE hR hr hx
    go_enter Tryd.func41, Tryd.ntmps41
    have F := sh.fxb
    have tok_b1 : True := trivial
    go_wp2_with (first
        | ((with_reducible first | refine Hp.wpl_box sh ?_ ?_ | refine Hp.wpa sh ?_ ?_ | refine Hp.atl_store ?_ ?_); exact rfl; (try (refine Hp.wsB sh ?_)); clear sh; (try clear F); go_simp; (first | (have tok := tok_b1; clear tok tok_b1; intro b1 w1 sh) | intro b w1 sh | intro w1 sh); have F := sh.fxb)
        | fail)
    refine Hp.region_soft (by kernel_rfl) sh (fun _ q => q) ?_; clear sh; (try clear F)
    (try simp only [Hp.p2, Hp.p3])
    (refine Hp.tks (i := 0) (oi := ⟨some 3, Op.fieldAddr 27 (Operand.tmp 1) 1, _, _, _, none⟩) (fun _ q => q) ?_)
    (refine Hp.tk (i := 1) (oi := ⟨some 4, Op.load 24 (Operand.tmp 3), _, _, _, none⟩) _ (fun _ q => q) (fun W hW => by (have F := Hp.Sh.facts hW); (have hd := Hp.Sh.data hW); (try simp only [Hp.Facts, Hp.CellsAt, BatP.cellsAt_bt, Nat.reduceAdd, Hp.c1, Hp.c2] at F); (have hcs := HC.out _ hd; rw [EvP.add_z] at hcs); go_simp; (try with_reducible rfl)) ?_)
    (refine Hp.tks (i := 2) (oi := ⟨some 5, Op.call { callee := Callee.builtin Builtin.len, args := #[Operand.tmp 4], argTypes := #[24] }, _, _, _, none⟩) (fun _ q => q) ?_)
    (refine Hp.tks (i := 3) (oi := ⟨some 6, Op.binOp BinOp.geq 3 (Operand.tmp 5) (Operand.const (Value.int IntKind.i64 1)) 3, _, _, _, none⟩) (fun _ q => q) ?_)
    (refine Hp.tks (i := 4) (oi := ⟨some 7, Op.move (Operand.tmp 6), _, _, _, none⟩) (fun _ q => q) ?_)
    (first | (refine Hp.tks (i := 5) (oi := ⟨some 8, Op.fieldAddr 27 (Operand.tmp 1) 1, _, _, _, some (4, true)⟩) (fun _ q => q) ?_) | (refine Hp.skp (i := 5) (oi := ⟨some 8, Op.fieldAddr 27 (Operand.tmp 1) 1, _, _, _, some (4, true)⟩) (fun _ q => q) ?_))
    (first | (refine Hp.tk (i := 6) (oi := ⟨some 9, Op.load 24 (Operand.tmp 8), _, _, _, some (4, true)⟩) _ (fun _ q => q) (fun W hW => by (have F := Hp.Sh.facts hW); (have hd := Hp.Sh.data hW); (try simp only [Hp.Facts, Hp.CellsAt, BatP.cellsAt_bt, Nat.reduceAdd, Hp.c1, Hp.c2] at F); (have hcs := HC.out _ hd; rw [EvP.add_z] at hcs); go_simp; (try with_reducible rfl)) ?_) | (refine Hp.skp (i := 6) (oi := ⟨some 9, Op.load 24 (Operand.tmp 8), _, _, _, some (4, true)⟩) (fun _ q => q) ?_))
    (first | (refine Hp.tks (i := 7) (oi := ⟨some 10, Op.call { callee := Callee.builtin Builtin.len, args := #[Operand.tmp 9], argTypes := #[24] }, _, _, _, some (4, true)⟩) (fun _ q => q) ?_) | (refine Hp.skp (i := 7) (oi := ⟨some 10, Op.call { callee := Callee.builtin Builtin.len, args := #[Operand.tmp 9], argTypes := #[24] }, _, _, _, some (4, true)⟩) (fun _ q => q) ?_))
    (first | (refine Hp.tks (i := 8) (oi := ⟨some 11, Op.binOp BinOp.leq 3 (Operand.tmp 10) (Operand.const (Value.int IntKind.i64 256)) 3, _, _, _, some (4, true)⟩) (fun _ q => q) ?_) | (refine Hp.skp (i := 8) (oi := ⟨some 11, Op.binOp BinOp.leq 3 (Operand.tmp 10) (Operand.const (Value.int IntKind.i64 256)) 3, _, _, _, some (4, true)⟩) (fun _ q => q) ?_))
    (refine Hp.tks (i := 9) (oi := ⟨some 12, Op.pick (Operand.tmp 7) (Operand.tmp 11) (Operand.const (Value.bool false)), _, _, _, none⟩) (fun _ q => q) ?_)
    (refine Hp.tks (i := 10) (oi := ⟨some 13, Op.move (Operand.tmp 12), _, _, _, none⟩) (fun _ q => q) ?_)
    (first | (refine Hp.tks (i := 11) (oi := ⟨some 14, Op.fieldAddr 27 (Operand.tmp 1) 1, _, _, _, some (10, true)⟩) (fun _ q => q) ?_) | (refine Hp.skp (i := 11) (oi := ⟨some 14, Op.fieldAddr 27 (Operand.tmp 1) 1, _, _, _, some (10, true)⟩) (fun _ q => q) ?_))
    (first | (refine Hp.tk (i := 12) (oi := ⟨some 15, Op.load 24 (Operand.tmp 14), _, _, _, some (10, true)⟩) _ (fun _ q => q) (fun W hW => by (have F := Hp.Sh.facts hW); (have hd := Hp.Sh.data hW); (try simp only [Hp.Facts, Hp.CellsAt, BatP.cellsAt_bt, Nat.reduceAdd, Hp.c1, Hp.c2] at F); (have hcs := HC.out _ hd; rw [EvP.add_z] at hcs); go_simp; (try with_reducible rfl)) ?_) | (refine Hp.skp (i := 12) (oi := ⟨some 15, Op.load 24 (Operand.tmp 14), _, _, _, some (10, true)⟩) (fun _ q => q) ?_))
    (first | (refine Hp.cl (i := 13) (oi := ⟨some 16, Op.call { callee := Callee.value (Operand.func 63), args := #[Operand.tmp 15], argTypes := #[24] }, _, _, _, some (10, true)⟩) _ _ _ (fun _ q => q) (fun W hW => by go_simp) (fun W hW => (K1.out W hW.data)) ?_) | (refine Hp.skp (i := 13) (oi := ⟨some 16, Op.call { callee := Callee.value (Operand.func 63), args := #[Operand.tmp 15], argTypes := #[24] }, _, _, _, some (10, true)⟩) (fun _ q => q) ?_))
    (refine Hp.tks (i := 14) (oi := ⟨some 17, Op.pick (Operand.tmp 13) (Operand.tmp 16) (Operand.const (Value.bool false)), _, _, _, none⟩) (fun _ q => q) ?_)
    (refine Hp.tks (i := 15) (oi := ⟨some 18, Op.move (Operand.tmp 17), _, _, _, none⟩) (fun _ q => q) ?_)
    (first | (refine Hp.tks (i := 16) (oi := ⟨some 19, Op.fieldAddr 27 (Operand.tmp 1) 1, _, _, _, some (15, true)⟩) (fun _ q => q) ?_) | (refine Hp.skp (i := 16) (oi := ⟨some 19, Op.fieldAddr 27 (Operand.tmp 1) 1, _, _, _, some (15, true)⟩) (fun _ q => q) ?_))
    (first | (refine Hp.tk (i := 17) (oi := ⟨some 20, Op.load 24 (Operand.tmp 19), _, _, _, some (15, true)⟩) _ (fun _ q => q) (fun W hW => by (have F := Hp.Sh.facts hW); (have hd := Hp.Sh.data hW); (try simp only [Hp.Facts, Hp.CellsAt, BatP.cellsAt_bt, Nat.reduceAdd, Hp.c1, Hp.c2] at F); (have hcs := HC.out _ hd; rw [EvP.add_z] at hcs); go_simp; (try with_reducible rfl)) ?_) | (refine Hp.skp (i := 17) (oi := ⟨some 20, Op.load 24 (Operand.tmp 19), _, _, _, some (15, true)⟩) (fun _ q => q) ?_))
    (first | (refine Hp.tks (i := 18) (oi := ⟨some 21, Op.indexAddr 24 (Operand.tmp 20) (Operand.const (Value.int IntKind.i64 0)), _, _, _, some (15, true)⟩) (fun _ q => q) ?_) | (refine Hp.skp (i := 18) (oi := ⟨some 21, Op.indexAddr 24 (Operand.tmp 20) (Operand.const (Value.int IntKind.i64 0)), _, _, _, some (15, true)⟩) (fun _ q => q) ?_))
    (first | (refine Hp.tks (i := 19) (oi := ⟨some 22, Op.fieldAddr 47 (Operand.tmp 21) 0, _, _, _, some (15, true)⟩) (fun _ q => q) ?_) | (refine Hp.skp (i := 19) (oi := ⟨some 22, Op.fieldAddr 47 (Operand.tmp 21) 0, _, _, _, some (15, true)⟩) (fun _ q => q) ?_))
    (first | (refine Hp.tk (i := 20) (oi := ⟨some 23, Op.load 25 (Operand.tmp 22), _, _, _, some (15, true)⟩) _ (fun _ q => q) (fun W hW => by (have F := Hp.Sh.facts hW); (have hd := Hp.Sh.data hW); (try simp only [Hp.Facts, Hp.CellsAt, BatP.cellsAt_bt, Nat.reduceAdd, Hp.c1, Hp.c2] at F); (have hcs := HC.out _ hd; rw [EvP.add_z] at hcs); go_simp; (try with_reducible rfl)) ?_) | (refine Hp.skp (i := 20) (oi := ⟨some 23, Op.load 25 (Operand.tmp 22), _, _, _, some (15, true)⟩) (fun _ q => q) ?_))
    (first | (refine Hp.tks (i := 21) (oi := ⟨some 24, Op.fieldAddr 27 (Operand.tmp 1) 0, _, _, _, some (15, true)⟩) (fun _ q => q) ?_) | (refine Hp.skp (i := 21) (oi := ⟨some 24, Op.fieldAddr 27 (Operand.tmp 1) 0, _, _, _, some (15, true)⟩) (fun _ q => q) ?_))
    (first | (refine Hp.tk (i := 22) (oi := ⟨some 25, Op.load 25 (Operand.tmp 24), _, _, _, some (15, true)⟩) _ (fun _ q => q) (fun W hW => by (have F := Hp.Sh.facts hW); (have hd := Hp.Sh.data hW); (try simp only [Hp.Facts, Hp.CellsAt, BatP.cellsAt_bt, Nat.reduceAdd, Hp.c1, Hp.c2] at F); (have hcs := HC.out _ hd; rw [EvP.add_z] at hcs); go_simp; (try with_reducible rfl)) ?_) | (refine Hp.skp (i := 22) (oi := ⟨some 25, Op.load 25 (Operand.tmp 24), _, _, _, some (15, true)⟩) (fun _ q => q) ?_))
    (first | (refine Hp.tks (i := 23) (oi := ⟨some 26, Op.binOp BinOp.eql 25 (Operand.tmp 23) (Operand.tmp 25) 25, _, _, _, some (15, true)⟩) (fun _ q => q) ?_) | (refine Hp.skp (i := 23) (oi := ⟨some 26, Op.binOp BinOp.eql 25 (Operand.tmp 23) (Operand.tmp 25) 25, _, _, _, some (15, true)⟩) (fun _ q => q) ?_))
    (refine Hp.tks (i := 24) (oi := ⟨some 27, Op.pick (Operand.tmp 18) (Operand.tmp 26) (Operand.const (Value.bool false)), _, _, _, none⟩) (fun _ q => q) ?_)
    (refine Hp.tks (i := 25) (oi := ⟨some 2, Op.assign (Operand.tmp 27), _, _, _, none⟩) (fun _ q => q) ?_)
    refine Hp.soft_done (by kernel_rfl) (fun w1 sh => ?_) _; (try clear F); (try have F := Hp.Sh.facts sh); (try simp only [Hp.Facts, Hp.CellsAt, BatP.cellsAt_bt, Nat.reduceAdd, Hp.c1, Hp.c2] at F)
    go_wp2_with (first
        | ((with_reducible first | refine Hp.wpl_box sh ?_ ?_ | refine Hp.wpa sh ?_ ?_ | refine Hp.atl_store ?_ ?_); exact rfl; (try (refine Hp.wsB sh ?_)); clear sh; (try clear F); go_simp; (first | intro b w1 sh | intro w1 sh); have F := sh.fxb)
        | fail)
    go_ret
    exact ⟨by rw [HV.out]; dsimp only; first | rfl | (simp; done) | (congr 2; rw [Bool.eq_iff_iff]; simp), sh.below⟩

set_option maxHeartbeats 4000000 in
set_option maxRecDepth 100000 in
theorem bsame04 (s1 s2 : Option Addr) (l : List EvP.Ev) (n c1 c2 : Nat) (hn : n = l.length) (hm : n ≤ 9223372036854775807) (w : World) (hR : Hp.RdV w s1 (l.flatMap EvP.evc)) (hR2 : Hp.RdV w s2 (l.flatMap EvP.evc)) :
    Calls Tryd.prog 16 #[.slice s1 n c1, .slice s2 n c2] w fun e w' => e = .returned (.bool true) ∧ Below w.heap.size w w' := by
  have sh := (Hp.Sh.start ((RdV_rob hR).and (RdV_rob hR2)) : Hp.Sh w w [] (fun W => Hp.RdV W s1 (l.flatMap EvP.evc) ∧ Hp.RdV W s2 (l.flatMap EvP.evc)))
  have HL := Lib.hid hn
  clear hn hR hR2
  go_enter Tryd.func16, Tryd.ntmps16
  have F := sh.fxb
  go_wp2_with (first
      | ((with_reducible first | refine Hp.wpl_box sh ?_ ?_ | refine Hp.wpa sh ?_ ?_ | refine Hp.atl_store ?_ ?_); exact rfl; (try (refine Hp.wsB sh ?_)); clear sh; (try clear F); go_simp; (first | intro b w1 sh | intro w1 sh); have F := sh.fxb)
      | fail)
  go_loopw [5] (fun i wr => ∃ k : Nat, i = .int .i64 k ∧ k ≤ n ∧ Hp.Sh w wr [] (fun W => Hp.RdV W s1 (l.flatMap EvP.evc) ∧ Hp.RdV W s2 (l.flatMap EvP.evc))) (fun i _ => n - (intOf i).toNat)
  case atStart => exact ⟨0, rfl, by omega, sh⟩
  case round =>
    clear sh F
    obtain ⟨k, rfl, hk, sh⟩ := hrel
    by_cases hlt : k < n
    · have hlI : (k : Int) < (n : Int) := by omega
      have hkL : k < l.length := by rw [← HL.out]; exact hlt
      obtain ⟨p1, hp1, -⟩ := sh.data.1 (Hp.flat_pos EvP.evc_len (by decide) hkL)
      obtain ⟨p2, hp2, -⟩ := sh.data.2 (Hp.flat_pos EvP.evc_len (by decide) hkL)
      subst hp1 hp2
      rcases hx : l[k] with ⟨s, t, p, kd, a, b⟩
      have HX := Lib.hid hx
      have HC := Lib.hid (fun W (q : Hp.RdV W (some p1) (l.flatMap EvP.evc) ∧ Hp.RdV W (some p2) (l.flatMap EvP.evc)) => And.intro (EvP.ev_cells q.1 hkL HX.out) (EvP.ev_cells q.2 hkL HX.out))
      clear hx
      have F := sh.fxb
      go_wp2_with (first
          | ((with_reducible first | refine Hp.wpl_box sh ?_ ?_ | refine Hp.wpa sh ?_ ?_ | refine Hp.atl_store ?_ ?_); exact rfl; (try (refine Hp.wsB sh ?_)); clear sh; (try clear F); go_simp; (first | intro b w1 sh | intro w1 sh); have F := sh.fxb)
          | fail)
      refine Hp.region_soft (by kernel_rfl) sh (fun _ q => q) ?_; clear sh; (try clear F)
      (try simp only [Hp.p2, Hp.p3])
      (refine Hp.tks (i := 0) (oi := ⟨some 17, Op.move (Operand.tmp 0), _, _, _, none⟩) (fun _ q => q) ?_)
      (refine Hp.tks (i := 1) (oi := ⟨some 18, Op.move (Operand.tmp 5), _, _, _, none⟩) (fun _ q => q) ?_)
      (refine Hp.tks (i := 2) (oi := ⟨some 19, Op.indexAddr 24 (Operand.tmp 17) (Operand.tmp 18), _, _, _, none⟩) (fun _ q => q) ?_)
      (refine Hp.tk (i := 3) (oi := ⟨some 20, Op.load 47 (Operand.tmp 19), _, _, _, none⟩) _ (fun _ q => q) (fun W hW => by (have F := Hp.Sh.facts hW); (have hd := Hp.Sh.data hW); (try simp only [Hp.Facts, Hp.CellsAt, BatP.cellsAt_bt, Nat.reduceAdd, Hp.c1, Hp.c2] at F); have hcs := HC.out _ hd; go_simp; (try with_reducible rfl)) ?_)
      (refine Hp.tks (i := 4) (oi := ⟨some 21, Op.move (Operand.tmp 1), _, _, _, none⟩) (fun _ q => q) ?_)
      (refine Hp.tks (i := 5) (oi := ⟨some 22, Op.move (Operand.tmp 5), _, _, _, none⟩) (fun _ q => q) ?_)
      (refine Hp.tks (i := 6) (oi := ⟨some 23, Op.indexAddr 24 (Operand.tmp 21) (Operand.tmp 22), _, _, _, none⟩) (fun _ q => q) ?_)
      (refine Hp.tk (i := 7) (oi := ⟨some 24, Op.load 47 (Operand.tmp 23), _, _, _, none⟩) _ (fun _ q => q) (fun W hW => by (have F := Hp.Sh.facts hW); (have hd := Hp.Sh.data hW); (try simp only [Hp.Facts, Hp.CellsAt, BatP.cellsAt_bt, Nat.reduceAdd, Hp.c1, Hp.c2] at F); have hcs := HC.out _ hd; go_simp; (try with_reducible rfl)) ?_)
      (refine Hp.tks (i := 8) (oi := ⟨some 25, Op.binOp BinOp.neq 47 (Operand.tmp 20) (Operand.tmp 24) 47, _, _, _, none⟩) (fun _ q => q) ?_)
      refine Hp.soft_done (by kernel_rfl) (fun w1 sh => ?_) _; (try clear F); (try have F := Hp.Sh.facts sh); (try simp only [Hp.Facts, Hp.CellsAt, BatP.cellsAt_bt, Nat.reduceAdd, Hp.c1, Hp.c2] at F)
      go_wp2_with (first
          | ((with_reducible first | refine Hp.wpl_box sh ?_ ?_ | refine Hp.wpa sh ?_ ?_ | refine Hp.atl_store ?_ ?_); exact rfl; (try (refine Hp.wsB sh ?_)); clear sh; (try clear F); go_simp; (first | intro b w1 sh | intro w1 sh); have F := sh.fxb)
          | fail)
      go_roundw
      case rel => exact ⟨k + 1, by go_num, by omega, sh⟩
      case measure => simp [intOf]; omega
    · obtain rfl : k = n := by omega
      have F := sh.fxb
      go_wp2_with (first
          | ((with_reducible first | refine Hp.wpl_box sh ?_ ?_ | refine Hp.wpa sh ?_ ?_ | refine Hp.atl_store ?_ ?_); exact rfl; (try (refine Hp.wsB sh ?_)); clear sh; (try clear F); go_simp; (first | intro b w1 sh | intro w1 sh); have F := sh.fxb)
          | fail)
      go_ret
      exact ⟨rfl, sh.below⟩


theorem bdeq_same (xs : List UInt8) (hx : xs.length = 32) (W : World) : (Op.equalIn 10000 23 (.agg (BatP.bA xs)) (.agg (BatP.bA xs))).run Tryd.prog W = .ok true W := by
  have h := run_equalIn_bytes W 9998 23 5 32 Tryd.underlying23 Tryd.underlying5 (fun _ => by kernel_rfl) xs xs hx hx
  have e : (Op.equalIn 10000 23 (.agg (BatP.bA xs)) (.agg (BatP.bA xs))).run Tryd.prog W = .ok (xs == xs) W := h
  rw [e]; simp

set_option maxHeartbeats 2000000 in
set_option maxRecDepth 100000 in
theorem bsame (f : Int) (s1 s2 : Option Addr) (n c1 c2 : Nat) (l : List EvP.Ev) (p : List UInt8) (hp : p.length = 32) (hn : n = l.length) (hm : n ≤ 9223372036854775807) (w : World) (hR : Hp.RdV w s1 (l.flatMap EvP.evc)) (hR2 : Hp.RdV w s2 (l.flatMap EvP.evc)) :
    Calls Tryd.prog 12 #[.agg (BatP.btA f (.slice s1 n c1) p), .agg (BatP.btA f (.slice s2 n c2) p)] w fun e w' => e = .returned (.bool true) ∧ Below w.heap.size w w' := by
  have sh := (Hp.Sh.start ((RdV_rob hR).and (RdV_rob hR2)) : Hp.Sh w w [] (fun W => Hp.RdV W s1 (l.flatMap EvP.evc) ∧ Hp.RdV W s2 (l.flatMap EvP.evc)))
  have K1 := Lib.hid (fun W q q2 => bsame04 s1 s2 l n c1 c2 hn hm W q q2)
  have HD := bdeq_same p hp
  have HPL := Lib.hid hp
  clear hp hn hR hR2
  go_enter Tryd.func12, Tryd.ntmps12
  have F := sh.fxb
  have tok_b2 : True := trivial
  have tok_b3 : True := trivial
  go_wp2_with (first
      | ((with_reducible refine Hp.at_ld 23 ?_); (first | refine Hp.bld_prev 1 sh rfl rfl rfl Tryd.underlying23 rfl (by rw [HPL.out]; kernel_rfl) ?_ | refine Hp.bld_prev 0 sh rfl rfl rfl Tryd.underlying23 rfl (by rw [HPL.out]; kernel_rfl) ?_); go_simp)
      | ((with_reducible first | refine Hp.wpl_box sh ?_ ?_ | refine Hp.wpa sh ?_ ?_ | refine Hp.atl_store ?_ ?_); exact rfl; (try (refine Hp.wsB sh ?_)); clear sh; (try clear F); go_simp; (first | (have tok := tok_b2; clear tok tok_b2; intro b2 w1 sh) | (have tok := tok_b3; clear tok tok_b3; intro b3 w1 sh) | intro b w1 sh | intro w1 sh); have F := sh.fxb)
      | fail)
  go_fit (K1.out _ sh.data.1 sh.data.2)
  rintro e w1 ⟨rfl, hb⟩
  replace sh := sh.call hb; clear hb; (try clear F); have F := sh.fxb
  go_wp2_with (first
      | ((with_reducible first | refine Hp.wpl_box sh ?_ ?_ | refine Hp.wpa sh ?_ ?_ | refine Hp.atl_store ?_ ?_); exact rfl; (try (refine Hp.wsB sh ?_)); clear sh; (try clear F); go_simp; (first | intro b w1 sh | intro w1 sh); have F := sh.fxb)
      | fail)
  go_ret
  exact ⟨rfl, sh.below⟩
end Go.Proofs.YtfcffglgkblidaaDoor
