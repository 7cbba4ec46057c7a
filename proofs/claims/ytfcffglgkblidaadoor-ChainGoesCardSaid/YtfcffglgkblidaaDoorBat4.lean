
/-
  The walks of Is, Last.
-/
import Derived.Test.YtfcffglgkblidaaDoorBat3
namespace Go.Proofs.YtfcffglgkblidaaDoor
open Go.RowKit
set_option linter.unusedVariables false
set_option linter.unusedSimpArgs false
theorem BatP.bt_size {f : Int} {v : Value} {p : List UInt8} (h : p.length = 32) : (Tryd.prog.info? 27).map (·.size) = some (BatP.btA f v p).size := by rw [BatP.btA_size, h]; kernel_rfl
theorem BatP.bt_size' {p : List UInt8} (h : p.length = 32) : (Tryd.prog.info? 27).map (·.size) = some (p.length + 2) := by rw [h]; kernel_rfl
theorem BatP.isB_no {b : BatP.Ba} (h : b.2.1.length < 1 ∨ 256 < b.2.1.length ∨ EvP.runB b.2.1 = false) : BatP.isB b = false := by
  cases hb : BatP.isB b with
  | false => rfl
  | true =>
    have := BatP.isB_iff.1 hb
    rcases h with h | h | h
    · omega
    · omega
    · rw [h] at this; cases this.2.2.1
theorem BatP.isB_run {b : BatP.Ba} {q : Int} (h1 : 1 ≤ b.2.1.length) (h2 : b.2.1.length ≤ 256) (h3 : EvP.runB b.2.1 = true) (h4 : (b.2.1.getD 0 EvP.zero).1 = q) : BatP.isB b = decide (q = b.1) := by
  unfold BatP.isB
  rw [h3, h4, decide_eq_true h1, decide_eq_true h2]; simp

set_option maxHeartbeats 4000000 in
set_option maxRecDepth 100000 in
theorem bis (f : Int) (s : Option Addr) (n c : Nat) (l : List EvP.Ev) (prev : List UInt8) (hn : n = l.length) (hnc : n ≤ c) (hm : n ≤ 9223372036854775807) (hE : ∀ x ∈ l, EvP.EvB x) (w : World) (hR : Hp.RdV w s (l.flatMap EvP.evc)) :
    Calls Tryd.prog 35 #[.agg (BatP.btA f (.slice s n c) prev)] w fun e w' => e = .returned (.bool (BatP.isB (f, l, prev))) ∧ Below w.heap.size w w' := by
  have sh := (Hp.Sh.start (RdV_rob hR) : Hp.Sh w w [] (fun W => Hp.RdV W s (l.flatMap EvP.evc)))
  by_cases c1 : n < 1
  · have HV := Lib.hid (BatP.isB_no (b := (f, l, prev)) (Or.inl (by dsimp only; omega)))
    have d1 : decide ((1 : Int) ≤ (n : Int)) = false := by simp; omega
    have d2 : decide (1 ≤ n) = false := by simp; omega
    clear hn hE hR
    go_enter Tryd.func35, Tryd.ntmps35
    have F := sh.fxb
    have tok_b1 : True := trivial
    go_wp2_with (first
        | ((with_reducible first | refine Hp.wpl_box sh ?_ ?_ | refine Hp.wpa sh ?_ ?_ | refine Hp.atl_store ?_ ?_); exact rfl; (try (refine Hp.wsB sh ?_)); clear sh; (try clear F); go_simp; (first | (have tok := tok_b1; clear tok tok_b1; intro b1 w1 sh) | intro b w1 sh | intro w1 sh); have F := sh.fxb)
        | fail)
    refine Hp.region_soft (by kernel_rfl) sh (fun _ q => q) ?_; clear sh; (try clear F)
    (try simp only [Hp.p2, Hp.p3])
    (refine Hp.tks (i := 0) (oi := ⟨some 7, Op.move (Operand.tmp 3), _, _, _, none⟩) (fun _ q => q) ?_)
    (refine Hp.tks (i := 1) (oi := ⟨some 8, Op.binOp BinOp.geq 3 (Operand.tmp 7) (Operand.const (Value.int IntKind.i64 1)) 3, _, _, _, none⟩) (fun _ q => q) ?_)
    (refine Hp.tks (i := 2) (oi := ⟨some 9, Op.move (Operand.tmp 8), _, _, _, none⟩) (fun _ q => q) ?_)
    (first | (refine Hp.tks (i := 3) (oi := ⟨some 10, Op.move (Operand.tmp 3), _, _, _, some (2, true)⟩) (fun _ q => q) ?_) | (refine Hp.skp (i := 3) (oi := ⟨some 10, Op.move (Operand.tmp 3), _, _, _, some (2, true)⟩) (fun _ q => q) ?_))
    (first | (refine Hp.tks (i := 4) (oi := ⟨some 11, Op.binOp BinOp.leq 3 (Operand.tmp 10) (Operand.const (Value.int IntKind.i64 256)) 3, _, _, _, some (2, true)⟩) (fun _ q => q) ?_) | (refine Hp.skp (i := 4) (oi := ⟨some 11, Op.binOp BinOp.leq 3 (Operand.tmp 10) (Operand.const (Value.int IntKind.i64 256)) 3, _, _, _, some (2, true)⟩) (fun _ q => q) ?_))
    (refine Hp.tks (i := 5) (oi := ⟨some 12, Op.pick (Operand.tmp 9) (Operand.tmp 11) (Operand.const (Value.bool false)), _, _, _, none⟩) (fun _ q => q) ?_)
    (refine Hp.tks (i := 6) (oi := ⟨some 13, Op.move (Operand.tmp 12), _, _, _, none⟩) (fun _ q => q) ?_)
    (first | (refine Hp.tks (i := 7) (oi := ⟨some 14, Op.fieldAddr 27 (Operand.tmp 1) 1, _, _, _, some (6, true)⟩) (fun _ q => q) ?_) | (refine Hp.skp (i := 7) (oi := ⟨some 14, Op.fieldAddr 27 (Operand.tmp 1) 1, _, _, _, some (6, true)⟩) (fun _ q => q) ?_))
    (first | (refine Hp.tk (i := 8) (oi := ⟨some 15, Op.load 24 (Operand.tmp 14), _, _, _, some (6, true)⟩) _ (fun _ q => q) (fun W hW => by (have F := Hp.Sh.facts hW); (have hd := Hp.Sh.data hW); (try simp only [Hp.Facts, Hp.CellsAt, BatP.cellsAt_bt, Nat.reduceAdd, Hp.c1, Hp.c2] at F); skip; go_simp; (try with_reducible rfl)) ?_) | (refine Hp.skp (i := 8) (oi := ⟨some 15, Op.load 24 (Operand.tmp 14), _, _, _, some (6, true)⟩) (fun _ q => q) ?_))
    (first | (refine Hp.cl (i := 9) (oi := ⟨some 16, Op.call { callee := Callee.value (Operand.func 19), args := #[Operand.tmp 15], argTypes := #[24] }, _, _, _, some (6, true)⟩) _ _ _ (fun _ q => q) (fun W hW => by go_simp) (fun W hW => (hW)) ?_) | (refine Hp.skp (i := 9) (oi := ⟨some 16, Op.call { callee := Callee.value (Operand.func 19), args := #[Operand.tmp 15], argTypes := #[24] }, _, _, _, some (6, true)⟩) (fun _ q => q) ?_))
    (refine Hp.tks (i := 10) (oi := ⟨some 17, Op.pick (Operand.tmp 13) (Operand.tmp 16) (Operand.const (Value.bool false)), _, _, _, none⟩) (fun _ q => q) ?_)
    (refine Hp.tks (i := 11) (oi := ⟨some 18, Op.move (Operand.tmp 17), _, _, _, none⟩) (fun _ q => q) ?_)
    (first | (refine Hp.tks (i := 12) (oi := ⟨some 19, Op.fieldAddr 27 (Operand.tmp 1) 1, _, _, _, some (11, true)⟩) (fun _ q => q) ?_) | (refine Hp.skp (i := 12) (oi := ⟨some 19, Op.fieldAddr 27 (Operand.tmp 1) 1, _, _, _, some (11, true)⟩) (fun _ q => q) ?_))
    (first | (refine Hp.tk (i := 13) (oi := ⟨some 20, Op.load 24 (Operand.tmp 19), _, _, _, some (11, true)⟩) _ (fun _ q => q) (fun W hW => by (have F := Hp.Sh.facts hW); (have hd := Hp.Sh.data hW); (try simp only [Hp.Facts, Hp.CellsAt, BatP.cellsAt_bt, Nat.reduceAdd, Hp.c1, Hp.c2] at F); skip; go_simp; (try with_reducible rfl)) ?_) | (refine Hp.skp (i := 13) (oi := ⟨some 20, Op.load 24 (Operand.tmp 19), _, _, _, some (11, true)⟩) (fun _ q => q) ?_))
    (first | (refine Hp.tks (i := 14) (oi := ⟨some 21, Op.indexAddr 24 (Operand.tmp 20) (Operand.const (Value.int IntKind.i64 0)), _, _, _, some (11, true)⟩) (fun _ q => q) ?_) | (refine Hp.skp (i := 14) (oi := ⟨some 21, Op.indexAddr 24 (Operand.tmp 20) (Operand.const (Value.int IntKind.i64 0)), _, _, _, some (11, true)⟩) (fun _ q => q) ?_))
    (first | (refine Hp.tks (i := 15) (oi := ⟨some 22, Op.fieldAddr 47 (Operand.tmp 21) 0, _, _, _, some (11, true)⟩) (fun _ q => q) ?_) | (refine Hp.skp (i := 15) (oi := ⟨some 22, Op.fieldAddr 47 (Operand.tmp 21) 0, _, _, _, some (11, true)⟩) (fun _ q => q) ?_))
    (first | (refine Hp.tk (i := 16) (oi := ⟨some 23, Op.load 25 (Operand.tmp 22), _, _, _, some (11, true)⟩) _ (fun _ q => q) (fun W hW => by (have F := Hp.Sh.facts hW); (have hd := Hp.Sh.data hW); (try simp only [Hp.Facts, Hp.CellsAt, BatP.cellsAt_bt, Nat.reduceAdd, Hp.c1, Hp.c2] at F); skip; go_simp; (try with_reducible rfl)) ?_) | (refine Hp.skp (i := 16) (oi := ⟨some 23, Op.load 25 (Operand.tmp 22), _, _, _, some (11, true)⟩) (fun _ q => q) ?_))
    (first | (refine Hp.tks (i := 17) (oi := ⟨some 24, Op.fieldAddr 27 (Operand.tmp 1) 0, _, _, _, some (11, true)⟩) (fun _ q => q) ?_) | (refine Hp.skp (i := 17) (oi := ⟨some 24, Op.fieldAddr 27 (Operand.tmp 1) 0, _, _, _, some (11, true)⟩) (fun _ q => q) ?_))
    (first | (refine Hp.tk (i := 18) (oi := ⟨some 25, Op.load 25 (Operand.tmp 24), _, _, _, some (11, true)⟩) _ (fun _ q => q) (fun W hW => by (have F := Hp.Sh.facts hW); (have hd := Hp.Sh.data hW); (try simp only [Hp.Facts, Hp.CellsAt, BatP.cellsAt_bt, Nat.reduceAdd, Hp.c1, Hp.c2] at F); skip; go_simp; (try with_reducible rfl)) ?_) | (refine Hp.skp (i := 18) (oi := ⟨some 25, Op.load 25 (Operand.tmp 24), _, _, _, some (11, true)⟩) (fun _ q => q) ?_))
    (first | (refine Hp.tks (i := 19) (oi := ⟨some 26, Op.binOp BinOp.eql 25 (Operand.tmp 23) (Operand.tmp 25) 25, _, _, _, some (11, true)⟩) (fun _ q => q) ?_) | (refine Hp.skp (i := 19) (oi := ⟨some 26, Op.binOp BinOp.eql 25 (Operand.tmp 23) (Operand.tmp 25) 25, _, _, _, some (11, true)⟩) (fun _ q => q) ?_))
    (refine Hp.tks (i := 20) (oi := ⟨some 27, Op.pick (Operand.tmp 18) (Operand.tmp 26) (Operand.const (Value.bool false)), _, _, _, none⟩) (fun _ q => q) ?_)
    (refine Hp.tks (i := 21) (oi := ⟨some 2, Op.assign (Operand.tmp 27), _, _, _, none⟩) (fun _ q => q) ?_)
    refine Hp.soft_done (by kernel_rfl) (fun w1 sh => ?_) _; (try clear F); (try have F := Hp.Sh.facts sh); (try simp only [Hp.Facts, Hp.CellsAt, BatP.cellsAt_bt, Nat.reduceAdd, Hp.c1, Hp.c2] at F)
    go_wp2_with (first
        | ((with_reducible first | refine Hp.wpl_box sh ?_ ?_ | refine Hp.wpa sh ?_ ?_ | refine Hp.atl_store ?_ ?_); exact rfl; (try (refine Hp.wsB sh ?_)); clear sh; (try clear F); go_simp; (first | intro b w1 sh | intro w1 sh); have F := sh.fxb)
        | fail)
    go_ret
    exact ⟨by rw [HV.out]; rfl, sh.below⟩
  have d1 : decide ((1 : Int) ≤ (n : Int)) = true := by simp; omega
  have d2 : decide (1 ≤ n) = true := by simp; omega
  by_cases c2 : 256 < n
  · have HV := Lib.hid (BatP.isB_no (b := (f, l, prev)) (Or.inr (Or.inl (by dsimp only; omega))))
    have d3 : decide ((n : Int) ≤ (256 : Int)) = false := by simp; omega
    have d4 : decide (n ≤ 256) = false := by simp; omega
    clear hn hE hR
    go_enter Tryd.func35, Tryd.ntmps35
    have F := sh.fxb
    have tok_b1 : True := trivial
    go_wp2_with (first
        | ((with_reducible first | refine Hp.wpl_box sh ?_ ?_ | refine Hp.wpa sh ?_ ?_ | refine Hp.atl_store ?_ ?_); exact rfl; (try (refine Hp.wsB sh ?_)); clear sh; (try clear F); go_simp; (first | (have tok := tok_b1; clear tok tok_b1; intro b1 w1 sh) | intro b w1 sh | intro w1 sh); have F := sh.fxb)
        | fail)
    refine Hp.region_soft (by kernel_rfl) sh (fun _ q => q) ?_; clear sh; (try clear F)
    (try simp only [Hp.p2, Hp.p3])
    (refine Hp.tks (i := 0) (oi := ⟨some 7, Op.move (Operand.tmp 3), _, _, _, none⟩) (fun _ q => q) ?_)
    (refine Hp.tks (i := 1) (oi := ⟨some 8, Op.binOp BinOp.geq 3 (Operand.tmp 7) (Operand.const (Value.int IntKind.i64 1)) 3, _, _, _, none⟩) (fun _ q => q) ?_)
    (refine Hp.tks (i := 2) (oi := ⟨some 9, Op.move (Operand.tmp 8), _, _, _, none⟩) (fun _ q => q) ?_)
    (first | (refine Hp.tks (i := 3) (oi := ⟨some 10, Op.move (Operand.tmp 3), _, _, _, some (2, true)⟩) (fun _ q => q) ?_) | (refine Hp.skp (i := 3) (oi := ⟨some 10, Op.move (Operand.tmp 3), _, _, _, some (2, true)⟩) (fun _ q => q) ?_))
    (first | (refine Hp.tks (i := 4) (oi := ⟨some 11, Op.binOp BinOp.leq 3 (Operand.tmp 10) (Operand.const (Value.int IntKind.i64 256)) 3, _, _, _, some (2, true)⟩) (fun _ q => q) ?_) | (refine Hp.skp (i := 4) (oi := ⟨some 11, Op.binOp BinOp.leq 3 (Operand.tmp 10) (Operand.const (Value.int IntKind.i64 256)) 3, _, _, _, some (2, true)⟩) (fun _ q => q) ?_))
    (refine Hp.tks (i := 5) (oi := ⟨some 12, Op.pick (Operand.tmp 9) (Operand.tmp 11) (Operand.const (Value.bool false)), _, _, _, none⟩) (fun _ q => q) ?_)
    (refine Hp.tks (i := 6) (oi := ⟨some 13, Op.move (Operand.tmp 12), _, _, _, none⟩) (fun _ q => q) ?_)
    (first | (refine Hp.tks (i := 7) (oi := ⟨some 14, Op.fieldAddr 27 (Operand.tmp 1) 1, _, _, _, some (6, true)⟩) (fun _ q => q) ?_) | (refine Hp.skp (i := 7) (oi := ⟨some 14, Op.fieldAddr 27 (Operand.tmp 1) 1, _, _, _, some (6, true)⟩) (fun _ q => q) ?_))
    (first | (refine Hp.tk (i := 8) (oi := ⟨some 15, Op.load 24 (Operand.tmp 14), _, _, _, some (6, true)⟩) _ (fun _ q => q) (fun W hW => by (have F := Hp.Sh.facts hW); (have hd := Hp.Sh.data hW); (try simp only [Hp.Facts, Hp.CellsAt, BatP.cellsAt_bt, Nat.reduceAdd, Hp.c1, Hp.c2] at F); skip; go_simp; (try with_reducible rfl)) ?_) | (refine Hp.skp (i := 8) (oi := ⟨some 15, Op.load 24 (Operand.tmp 14), _, _, _, some (6, true)⟩) (fun _ q => q) ?_))
    (first | (refine Hp.cl (i := 9) (oi := ⟨some 16, Op.call { callee := Callee.value (Operand.func 19), args := #[Operand.tmp 15], argTypes := #[24] }, _, _, _, some (6, true)⟩) _ _ _ (fun _ q => q) (fun W hW => by go_simp) (fun W hW => (hW)) ?_) | (refine Hp.skp (i := 9) (oi := ⟨some 16, Op.call { callee := Callee.value (Operand.func 19), args := #[Operand.tmp 15], argTypes := #[24] }, _, _, _, some (6, true)⟩) (fun _ q => q) ?_))
    (refine Hp.tks (i := 10) (oi := ⟨some 17, Op.pick (Operand.tmp 13) (Operand.tmp 16) (Operand.const (Value.bool false)), _, _, _, none⟩) (fun _ q => q) ?_)
    (refine Hp.tks (i := 11) (oi := ⟨some 18, Op.move (Operand.tmp 17), _, _, _, none⟩) (fun _ q => q) ?_)
    (first | (refine Hp.tks (i := 12) (oi := ⟨some 19, Op.fieldAddr 27 (Operand.tmp 1) 1, _, _, _, some (11, true)⟩) (fun _ q => q) ?_) | (refine Hp.skp (i := 12) (oi := ⟨some 19, Op.fieldAddr 27 (Operand.tmp 1) 1, _, _, _, some (11, true)⟩) (fun _ q => q) ?_))
    (first | (refine Hp.tk (i := 13) (oi := ⟨some 20, Op.load 24 (Operand.tmp 19), _, _, _, some (11, true)⟩) _ (fun _ q => q) (fun W hW => by (have F := Hp.Sh.facts hW); (have hd := Hp.Sh.data hW); (try simp only [Hp.Facts, Hp.CellsAt, BatP.cellsAt_bt, Nat.reduceAdd, Hp.c1, Hp.c2] at F); skip; go_simp; (try with_reducible rfl)) ?_) | (refine Hp.skp (i := 13) (oi := ⟨some 20, Op.load 24 (Operand.tmp 19), _, _, _, some (11, true)⟩) (fun _ q => q) ?_))
    (first | (refine Hp.tks (i := 14) (oi := ⟨some 21, Op.indexAddr 24 (Operand.tmp 20) (Operand.const (Value.int IntKind.i64 0)), _, _, _, some (11, true)⟩) (fun _ q => q) ?_) | (refine Hp.skp (i := 14) (oi := ⟨some 21, Op.indexAddr 24 (Operand.tmp 20) (Operand.const (Value.int IntKind.i64 0)), _, _, _, some (11, true)⟩) (fun _ q => q) ?_))
    (first | (refine Hp.tks (i := 15) (oi := ⟨some 22, Op.fieldAddr 47 (Operand.tmp 21) 0, _, _, _, some (11, true)⟩) (fun _ q => q) ?_) | (refine Hp.skp (i := 15) (oi := ⟨some 22, Op.fieldAddr 47 (Operand.tmp 21) 0, _, _, _, some (11, true)⟩) (fun _ q => q) ?_))
    (first | (refine Hp.tk (i := 16) (oi := ⟨some 23, Op.load 25 (Operand.tmp 22), _, _, _, some (11, true)⟩) _ (fun _ q => q) (fun W hW => by (have F := Hp.Sh.facts hW); (have hd := Hp.Sh.data hW); (try simp only [Hp.Facts, Hp.CellsAt, BatP.cellsAt_bt, Nat.reduceAdd, Hp.c1, Hp.c2] at F); skip; go_simp; (try with_reducible rfl)) ?_) | (refine Hp.skp (i := 16) (oi := ⟨some 23, Op.load 25 (Operand.tmp 22), _, _, _, some (11, true)⟩) (fun _ q => q) ?_))
    (first | (refine Hp.tks (i := 17) (oi := ⟨some 24, Op.fieldAddr 27 (Operand.tmp 1) 0, _, _, _, some (11, true)⟩) (fun _ q => q) ?_) | (refine Hp.skp (i := 17) (oi := ⟨some 24, Op.fieldAddr 27 (Operand.tmp 1) 0, _, _, _, some (11, true)⟩) (fun _ q => q) ?_))
    (first | (refine Hp.tk (i := 18) (oi := ⟨some 25, Op.load 25 (Operand.tmp 24), _, _, _, some (11, true)⟩) _ (fun _ q => q) (fun W hW => by (have F := Hp.Sh.facts hW); (have hd := Hp.Sh.data hW); (try simp only [Hp.Facts, Hp.CellsAt, BatP.cellsAt_bt, Nat.reduceAdd, Hp.c1, Hp.c2] at F); skip; go_simp; (try with_reducible rfl)) ?_) | (refine Hp.skp (i := 18) (oi := ⟨some 25, Op.load 25 (Operand.tmp 24), _, _, _, some (11, true)⟩) (fun _ q => q) ?_))
    (first | (refine Hp.tks (i := 19) (oi := ⟨some 26, Op.binOp BinOp.eql 25 (Operand.tmp 23) (Operand.tmp 25) 25, _, _, _, some (11, true)⟩) (fun _ q => q) ?_) | (refine Hp.skp (i := 19) (oi := ⟨some 26, Op.binOp BinOp.eql 25 (Operand.tmp 23) (Operand.tmp 25) 25, _, _, _, some (11, true)⟩) (fun _ q => q) ?_))
    (refine Hp.tks (i := 20) (oi := ⟨some 27, Op.pick (Operand.tmp 18) (Operand.tmp 26) (Operand.const (Value.bool false)), _, _, _, none⟩) (fun _ q => q) ?_)
    (refine Hp.tks (i := 21) (oi := ⟨some 2, Op.assign (Operand.tmp 27), _, _, _, none⟩) (fun _ q => q) ?_)
    refine Hp.soft_done (by kernel_rfl) (fun w1 sh => ?_) _; (try clear F); (try have F := Hp.Sh.facts sh); (try simp only [Hp.Facts, Hp.CellsAt, BatP.cellsAt_bt, Nat.reduceAdd, Hp.c1, Hp.c2] at F)
    go_wp2_with (first
        | ((with_reducible first | refine Hp.wpl_box sh ?_ ?_ | refine Hp.wpa sh ?_ ?_ | refine Hp.atl_store ?_ ?_); exact rfl; (try (refine Hp.wsB sh ?_)); clear sh; (try clear F); go_simp; (first | intro b w1 sh | intro w1 sh); have F := sh.fxb)
        | fail)
    go_ret
    exact ⟨by rw [HV.out]; rfl, sh.below⟩
  have d3 : decide ((n : Int) ≤ (256 : Int)) = true := by simp; omega
  have d4 : decide (n ≤ 256) = true := by simp; omega
  have K1 := Lib.hid (fun W q => erun s l n c hn hnc (by omega) hE W q)
  cases hr : EvP.runB l with
  | false =>
    have HV := Lib.hid (BatP.isB_no (b := (f, l, prev)) (Or.inr (Or.inr hr)))
    rw [hr] at K1
    clear hn hE hR hr
    go_enter Tryd.func35, Tryd.ntmps35
    have F := sh.fxb
    have tok_b1 : True := trivial
    go_wp2_with (first
        | ((with_reducible first | refine Hp.wpl_box sh ?_ ?_ | refine Hp.wpa sh ?_ ?_ | refine Hp.atl_store ?_ ?_); exact rfl; (try (refine Hp.wsB sh ?_)); clear sh; (try clear F); go_simp; (first | (have tok := tok_b1; clear tok tok_b1; intro b1 w1 sh) | intro b w1 sh | intro w1 sh); have F := sh.fxb)
        | fail)
    refine Hp.region_soft (by kernel_rfl) sh (fun _ q => q) ?_; clear sh; (try clear F)
    (try simp only [Hp.p2, Hp.p3])
    (refine Hp.tks (i := 0) (oi := ⟨some 7, Op.move (Operand.tmp 3), _, _, _, none⟩) (fun _ q => q) ?_)
    (refine Hp.tks (i := 1) (oi := ⟨some 8, Op.binOp BinOp.geq 3 (Operand.tmp 7) (Operand.const (Value.int IntKind.i64 1)) 3, _, _, _, none⟩) (fun _ q => q) ?_)
    (refine Hp.tks (i := 2) (oi := ⟨some 9, Op.move (Operand.tmp 8), _, _, _, none⟩) (fun _ q => q) ?_)
    (first | (refine Hp.tks (i := 3) (oi := ⟨some 10, Op.move (Operand.tmp 3), _, _, _, some (2, true)⟩) (fun _ q => q) ?_) | (refine Hp.skp (i := 3) (oi := ⟨some 10, Op.move (Operand.tmp 3), _, _, _, some (2, true)⟩) (fun _ q => q) ?_))
    (first | (refine Hp.tks (i := 4) (oi := ⟨some 11, Op.binOp BinOp.leq 3 (Operand.tmp 10) (Operand.const (Value.int IntKind.i64 256)) 3, _, _, _, some (2, true)⟩) (fun _ q => q) ?_) | (refine Hp.skp (i := 4) (oi := ⟨some 11, Op.binOp BinOp.leq 3 (Operand.tmp 10) (Operand.const (Value.int IntKind.i64 256)) 3, _, _, _, some (2, true)⟩) (fun _ q => q) ?_))
    (refine Hp.tks (i := 5) (oi := ⟨some 12, Op.pick (Operand.tmp 9) (Operand.tmp 11) (Operand.const (Value.bool false)), _, _, _, none⟩) (fun _ q => q) ?_)
    (refine Hp.tks (i := 6) (oi := ⟨some 13, Op.move (Operand.tmp 12), _, _, _, none⟩) (fun _ q => q) ?_)
    (first | (refine Hp.tks (i := 7) (oi := ⟨some 14, Op.fieldAddr 27 (Operand.tmp 1) 1, _, _, _, some (6, true)⟩) (fun _ q => q) ?_) | (refine Hp.skp (i := 7) (oi := ⟨some 14, Op.fieldAddr 27 (Operand.tmp 1) 1, _, _, _, some (6, true)⟩) (fun _ q => q) ?_))
    (first | (refine Hp.tk (i := 8) (oi := ⟨some 15, Op.load 24 (Operand.tmp 14), _, _, _, some (6, true)⟩) _ (fun _ q => q) (fun W hW => by (have F := Hp.Sh.facts hW); (have hd := Hp.Sh.data hW); (try simp only [Hp.Facts, Hp.CellsAt, BatP.cellsAt_bt, Nat.reduceAdd, Hp.c1, Hp.c2] at F); skip; go_simp; (try with_reducible rfl)) ?_) | (refine Hp.skp (i := 8) (oi := ⟨some 15, Op.load 24 (Operand.tmp 14), _, _, _, some (6, true)⟩) (fun _ q => q) ?_))
    (first | (refine Hp.cl (i := 9) (oi := ⟨some 16, Op.call { callee := Callee.value (Operand.func 19), args := #[Operand.tmp 15], argTypes := #[24] }, _, _, _, some (6, true)⟩) _ _ _ (fun _ q => q) (fun W hW => by go_simp) (fun W hW => (K1.out W hW.data)) ?_) | (refine Hp.skp (i := 9) (oi := ⟨some 16, Op.call { callee := Callee.value (Operand.func 19), args := #[Operand.tmp 15], argTypes := #[24] }, _, _, _, some (6, true)⟩) (fun _ q => q) ?_))
    (refine Hp.tks (i := 10) (oi := ⟨some 17, Op.pick (Operand.tmp 13) (Operand.tmp 16) (Operand.const (Value.bool false)), _, _, _, none⟩) (fun _ q => q) ?_)
    (refine Hp.tks (i := 11) (oi := ⟨some 18, Op.move (Operand.tmp 17), _, _, _, none⟩) (fun _ q => q) ?_)
    (first | (refine Hp.tks (i := 12) (oi := ⟨some 19, Op.fieldAddr 27 (Operand.tmp 1) 1, _, _, _, some (11, true)⟩) (fun _ q => q) ?_) | (refine Hp.skp (i := 12) (oi := ⟨some 19, Op.fieldAddr 27 (Operand.tmp 1) 1, _, _, _, some (11, true)⟩) (fun _ q => q) ?_))
    (first | (refine Hp.tk (i := 13) (oi := ⟨some 20, Op.load 24 (Operand.tmp 19), _, _, _, some (11, true)⟩) _ (fun _ q => q) (fun W hW => by (have F := Hp.Sh.facts hW); (have hd := Hp.Sh.data hW); (try simp only [Hp.Facts, Hp.CellsAt, BatP.cellsAt_bt, Nat.reduceAdd, Hp.c1, Hp.c2] at F); skip; go_simp; (try with_reducible rfl)) ?_) | (refine Hp.skp (i := 13) (oi := ⟨some 20, Op.load 24 (Operand.tmp 19), _, _, _, some (11, true)⟩) (fun _ q => q) ?_))
    (first | (refine Hp.tks (i := 14) (oi := ⟨some 21, Op.indexAddr 24 (Operand.tmp 20) (Operand.const (Value.int IntKind.i64 0)), _, _, _, some (11, true)⟩) (fun _ q => q) ?_) | (refine Hp.skp (i := 14) (oi := ⟨some 21, Op.indexAddr 24 (Operand.tmp 20) (Operand.const (Value.int IntKind.i64 0)), _, _, _, some (11, true)⟩) (fun _ q => q) ?_))
    (first | (refine Hp.tks (i := 15) (oi := ⟨some 22, Op.fieldAddr 47 (Operand.tmp 21) 0, _, _, _, some (11, true)⟩) (fun _ q => q) ?_) | (refine Hp.skp (i := 15) (oi := ⟨some 22, Op.fieldAddr 47 (Operand.tmp 21) 0, _, _, _, some (11, true)⟩) (fun _ q => q) ?_))
    (first | (refine Hp.tk (i := 16) (oi := ⟨some 23, Op.load 25 (Operand.tmp 22), _, _, _, some (11, true)⟩) _ (fun _ q => q) (fun W hW => by (have F := Hp.Sh.facts hW); (have hd := Hp.Sh.data hW); (try simp only [Hp.Facts, Hp.CellsAt, BatP.cellsAt_bt, Nat.reduceAdd, Hp.c1, Hp.c2] at F); skip; go_simp; (try with_reducible rfl)) ?_) | (refine Hp.skp (i := 16) (oi := ⟨some 23, Op.load 25 (Operand.tmp 22), _, _, _, some (11, true)⟩) (fun _ q => q) ?_))
    (first | (refine Hp.tks (i := 17) (oi := ⟨some 24, Op.fieldAddr 27 (Operand.tmp 1) 0, _, _, _, some (11, true)⟩) (fun _ q => q) ?_) | (refine Hp.skp (i := 17) (oi := ⟨some 24, Op.fieldAddr 27 (Operand.tmp 1) 0, _, _, _, some (11, true)⟩) (fun _ q => q) ?_))
    (first | (refine Hp.tk (i := 18) (oi := ⟨some 25, Op.load 25 (Operand.tmp 24), _, _, _, some (11, true)⟩) _ (fun _ q => q) (fun W hW => by (have F := Hp.Sh.facts hW); (have hd := Hp.Sh.data hW); (try simp only [Hp.Facts, Hp.CellsAt, BatP.cellsAt_bt, Nat.reduceAdd, Hp.c1, Hp.c2] at F); skip; go_simp; (try with_reducible rfl)) ?_) | (refine Hp.skp (i := 18) (oi := ⟨some 25, Op.load 25 (Operand.tmp 24), _, _, _, some (11, true)⟩) (fun _ q => q) ?_))
    (first | (refine Hp.tks (i := 19) (oi := ⟨some 26, Op.binOp BinOp.eql 25 (Operand.tmp 23) (Operand.tmp 25) 25, _, _, _, some (11, true)⟩) (fun _ q => q) ?_) | (refine Hp.skp (i := 19) (oi := ⟨some 26, Op.binOp BinOp.eql 25 (Operand.tmp 23) (Operand.tmp 25) 25, _, _, _, some (11, true)⟩) (fun _ q => q) ?_))
    (refine Hp.tks (i := 20) (oi := ⟨some 27, Op.pick (Operand.tmp 18) (Operand.tmp 26) (Operand.const (Value.bool false)), _, _, _, none⟩) (fun _ q => q) ?_)
    (refine Hp.tks (i := 21) (oi := ⟨some 2, Op.assign (Operand.tmp 27), _, _, _, none⟩) (fun _ q => q) ?_)
    refine Hp.soft_done (by kernel_rfl) (fun w1 sh => ?_) _; (try clear F); (try have F := Hp.Sh.facts sh); (try simp only [Hp.Facts, Hp.CellsAt, BatP.cellsAt_bt, Nat.reduceAdd, Hp.c1, Hp.c2] at F)
    go_wp2_with (first
        | ((with_reducible first | refine Hp.wpl_box sh ?_ ?_ | refine Hp.wpa sh ?_ ?_ | refine Hp.atl_store ?_ ?_); exact rfl; (try (refine Hp.wsB sh ?_)); clear sh; (try clear F); go_simp; (first | intro b w1 sh | intro w1 sh); have F := sh.fxb)
        | fail)
    go_ret
    exact ⟨by rw [HV.out]; rfl, sh.below⟩
  | true =>
    rw [hr] at K1
    have h0 : 0 < l.length := by omega
    obtain ⟨p9, hp9, -⟩ := hR (Hp.flat_pos EvP.evc_len (by decide) h0)
    subst hp9
    rcases hx : l[0] with ⟨q, t, p, k, a, b⟩
    have HV := Lib.hid (BatP.isB_run (b := (f, l, prev)) (q := q) (by dsimp only; omega) (by dsimp only; omega) hr (by dsimp only; rw [List.getD_eq_getElem?_getD, List.getElem?_eq_getElem h0, hx]; rfl))
    have HX := Lib.hid hx
    have HC := Lib.hid (fun W (q : Hp.RdV W (some p9) (l.flatMap EvP.evc)) => EvP.ev_cells q h0 HX.out)
    have hnI : (0 : Int) < (n : Int) := by omega
    have hnN : 0 < n := by omega
    clear hn hE hR hr hx
    go_enter Tryd.func35, Tryd.ntmps35
    have F := sh.fxb
    have tok_b1 : True := trivial
    go_wp2_with (first
        | ((with_reducible first | refine Hp.wpl_box sh ?_ ?_ | refine Hp.wpa sh ?_ ?_ | refine Hp.atl_store ?_ ?_); exact rfl; (try (refine Hp.wsB sh ?_)); clear sh; (try clear F); go_simp; (first | (have tok := tok_b1; clear tok tok_b1; intro b1 w1 sh) | intro b w1 sh | intro w1 sh); have F := sh.fxb)
        | fail)
    refine Hp.region_soft (by kernel_rfl) sh (fun _ q => q) ?_; clear sh; (try clear F)
    (try simp only [Hp.p2, Hp.p3])
    (refine Hp.tks (i := 0) (oi := ⟨some 7, Op.move (Operand.tmp 3), _, _, _, none⟩) (fun _ q => q) ?_)
    (refine Hp.tks (i := 1) (oi := ⟨some 8, Op.binOp BinOp.geq 3 (Operand.tmp 7) (Operand.const (Value.int IntKind.i64 1)) 3, _, _, _, none⟩) (fun _ q => q) ?_)
    (refine Hp.tks (i := 2) (oi := ⟨some 9, Op.move (Operand.tmp 8), _, _, _, none⟩) (fun _ q => q) ?_)
    (first | (refine Hp.tks (i := 3) (oi := ⟨some 10, Op.move (Operand.tmp 3), _, _, _, some (2, true)⟩) (fun _ q => q) ?_) | (refine Hp.skp (i := 3) (oi := ⟨some 10, Op.move (Operand.tmp 3), _, _, _, some (2, true)⟩) (fun _ q => q) ?_))
    (first | (refine Hp.tks (i := 4) (oi := ⟨some 11, Op.binOp BinOp.leq 3 (Operand.tmp 10) (Operand.const (Value.int IntKind.i64 256)) 3, _, _, _, some (2, true)⟩) (fun _ q => q) ?_) | (refine Hp.skp (i := 4) (oi := ⟨some 11, Op.binOp BinOp.leq 3 (Operand.tmp 10) (Operand.const (Value.int IntKind.i64 256)) 3, _, _, _, some (2, true)⟩) (fun _ q => q) ?_))
    (refine Hp.tks (i := 5) (oi := ⟨some 12, Op.pick (Operand.tmp 9) (Operand.tmp 11) (Operand.const (Value.bool false)), _, _, _, none⟩) (fun _ q => q) ?_)
    (refine Hp.tks (i := 6) (oi := ⟨some 13, Op.move (Operand.tmp 12), _, _, _, none⟩) (fun _ q => q) ?_)
    (first | (refine Hp.tks (i := 7) (oi := ⟨some 14, Op.fieldAddr 27 (Operand.tmp 1) 1, _, _, _, some (6, true)⟩) (fun _ q => q) ?_) | (refine Hp.skp (i := 7) (oi := ⟨some 14, Op.fieldAddr 27 (Operand.tmp 1) 1, _, _, _, some (6, true)⟩) (fun _ q => q) ?_))
    (first | (refine Hp.tk (i := 8) (oi := ⟨some 15, Op.load 24 (Operand.tmp 14), _, _, _, some (6, true)⟩) _ (fun _ q => q) (fun W hW => by (have F := Hp.Sh.facts hW); (have hd := Hp.Sh.data hW); (try simp only [Hp.Facts, Hp.CellsAt, BatP.cellsAt_bt, Nat.reduceAdd, Hp.c1, Hp.c2] at F); (have hcs := HC.out _ hd; rw [EvP.add_z] at hcs); go_simp; (try with_reducible rfl)) ?_) | (refine Hp.skp (i := 8) (oi := ⟨some 15, Op.load 24 (Operand.tmp 14), _, _, _, some (6, true)⟩) (fun _ q => q) ?_))
    (first | (refine Hp.cl (i := 9) (oi := ⟨some 16, Op.call { callee := Callee.value (Operand.func 19), args := #[Operand.tmp 15], argTypes := #[24] }, _, _, _, some (6, true)⟩) _ _ _ (fun _ q => q) (fun W hW => by go_simp) (fun W hW => (K1.out W hW.data)) ?_) | (refine Hp.skp (i := 9) (oi := ⟨some 16, Op.call { callee := Callee.value (Operand.func 19), args := #[Operand.tmp 15], argTypes := #[24] }, _, _, _, some (6, true)⟩) (fun _ q => q) ?_))
    (refine Hp.tks (i := 10) (oi := ⟨some 17, Op.pick (Operand.tmp 13) (Operand.tmp 16) (Operand.const (Value.bool false)), _, _, _, none⟩) (fun _ q => q) ?_)
    (refine Hp.tks (i := 11) (oi := ⟨some 18, Op.move (Operand.tmp 17), _, _, _, none⟩) (fun _ q => q) ?_)
    (first | (refine Hp.tks (i := 12) (oi := ⟨some 19, Op.fieldAddr 27 (Operand.tmp 1) 1, _, _, _, some (11, true)⟩) (fun _ q => q) ?_) | (refine Hp.skp (i := 12) (oi := ⟨some 19, Op.fieldAddr 27 (Operand.tmp 1) 1, _, _, _, some (11, true)⟩) (fun _ q => q) ?_))
    (first | (refine Hp.tk (i := 13) (oi := ⟨some 20, Op.load 24 (Operand.tmp 19), _, _, _, some (11, true)⟩) _ (fun _ q => q) (fun W hW => by (have F := Hp.Sh.facts hW); (have hd := Hp.Sh.data hW); (try simp only [Hp.Facts, Hp.CellsAt, BatP.cellsAt_bt, Nat.reduceAdd, Hp.c1, Hp.c2] at F); (have hcs := HC.out _ hd; rw [EvP.add_z] at hcs); go_simp; (try with_reducible rfl)) ?_) | (refine Hp.skp (i := 13) (oi := ⟨some 20, Op.load 24 (Operand.tmp 19), _, _, _, some (11, true)⟩) (fun _ q => q) ?_))
    (first | (refine Hp.tks (i := 14) (oi := ⟨some 21, Op.indexAddr 24 (Operand.tmp 20) (Operand.const (Value.int IntKind.i64 0)), _, _, _, some (11, true)⟩) (fun _ q => q) ?_) | (refine Hp.skp (i := 14) (oi := ⟨some 21, Op.indexAddr 24 (Operand.tmp 20) (Operand.const (Value.int IntKind.i64 0)), _, _, _, some (11, true)⟩) (fun _ q => q) ?_))
    (first | (refine Hp.tks (i := 15) (oi := ⟨some 22, Op.fieldAddr 47 (Operand.tmp 21) 0, _, _, _, some (11, true)⟩) (fun _ q => q) ?_) | (refine Hp.skp (i := 15) (oi := ⟨some 22, Op.fieldAddr 47 (Operand.tmp 21) 0, _, _, _, some (11, true)⟩) (fun _ q => q) ?_))
    (first | (refine Hp.tk (i := 16) (oi := ⟨some 23, Op.load 25 (Operand.tmp 22), _, _, _, some (11, true)⟩) _ (fun _ q => q) (fun W hW => by (have F := Hp.Sh.facts hW); (have hd := Hp.Sh.data hW); (try simp only [Hp.Facts, Hp.CellsAt, BatP.cellsAt_bt, Nat.reduceAdd, Hp.c1, Hp.c2] at F); (have hcs := HC.out _ hd; rw [EvP.add_z] at hcs); go_simp; (try with_reducible rfl)) ?_) | (refine Hp.skp (i := 16) (oi := ⟨some 23, Op.load 25 (Operand.tmp 22), _, _, _, some (11, true)⟩) (fun _ q => q) ?_))
    (first | (refine Hp.tks (i := 17) (oi := ⟨some 24, Op.fieldAddr 27 (Operand.tmp 1) 0, _, _, _, some (11, true)⟩) (fun _ q => q) ?_) | (refine Hp.skp (i := 17) (oi := ⟨some 24, Op.fieldAddr 27 (Operand.tmp 1) 0, _, _, _, some (11, true)⟩) (fun _ q => q) ?_))
    (first | (refine Hp.tk (i := 18) (oi := ⟨some 25, Op.load 25 (Operand.tmp 24), _, _, _, some (11, true)⟩) _ (fun _ q => q) (fun W hW => by (have F := Hp.Sh.facts hW); (have hd := Hp.Sh.data hW); (try simp only [Hp.Facts, Hp.CellsAt, BatP.cellsAt_bt, Nat.reduceAdd, Hp.c1, Hp.c2] at F); (have hcs := HC.out _ hd; rw [EvP.add_z] at hcs); go_simp; (try with_reducible rfl)) ?_) | (refine Hp.skp (i := 18) (oi := ⟨some 25, Op.load 25 (Operand.tmp 24), _, _, _, some (11, true)⟩) (fun _ q => q) ?_))
    (first | (refine Hp.tks (i := 19) (oi := ⟨some 26, Op.binOp BinOp.eql 25 (Operand.tmp 23) (Operand.tmp 25) 25, _, _, _, some (11, true)⟩) (fun _ q => q) ?_) | (refine Hp.skp (i := 19) (oi := ⟨some 26, Op.binOp BinOp.eql 25 (Operand.tmp 23) (Operand.tmp 25) 25, _, _, _, some (11, true)⟩) (fun _ q => q) ?_))
    (refine Hp.tks (i := 20) (oi := ⟨some 27, Op.pick (Operand.tmp 18) (Operand.tmp 26) (Operand.const (Value.bool false)), _, _, _, none⟩) (fun _ q => q) ?_)
    (refine Hp.tks (i := 21) (oi := ⟨some 2, Op.assign (Operand.tmp 27), _, _, _, none⟩) (fun _ q => q) ?_)
    refine Hp.soft_done (by kernel_rfl) (fun w1 sh => ?_) _; (try clear F); (try have F := Hp.Sh.facts sh); (try simp only [Hp.Facts, Hp.CellsAt, BatP.cellsAt_bt, Nat.reduceAdd, Hp.c1, Hp.c2] at F)
    go_wp2_with (first
        | ((with_reducible first | refine Hp.wpl_box sh ?_ ?_ | refine Hp.wpa sh ?_ ?_ | refine Hp.atl_store ?_ ?_); exact rfl; (try (refine Hp.wsB sh ?_)); clear sh; (try clear F); go_simp; (first | intro b w1 sh | intro w1 sh); have F := sh.fxb)
        | fail)
    go_ret
    exact ⟨by rw [HV.out]; dsimp only; first | rfl | (simp; done) | (congr 2; rw [Bool.eq_iff_iff]; simp), sh.below⟩

set_option maxHeartbeats 4000000 in
set_option maxRecDepth 100000 in
theorem blast (f : Int) (s : Option Addr) (n c : Nat) (prev : List UInt8) (hm : n ≤ 9223372036854775807) (w : World) :
    Calls Tryd.prog 27 #[.agg (BatP.btA f (.slice s n c) prev)] w fun e w' => e = .returned (.int .u64 (IntKind.u64.wrap (IntKind.u64.wrap (f + (n : Int)) - 1))) ∧ Below w.heap.size w w' := by
  have sh := (Hp.Sh.start (fun _ _ => trivial) : Hp.Sh w w [] (fun _ => True))
  have z1 : IntKind.u64.wrap (n : Int) = (n : Int) := by simp [IntKind.wrap, IntKind.bits, IntKind.signed]; omega
  go_enter Tryd.func27, Tryd.ntmps27
  have F := sh.fxb
  have tok_b1 : True := trivial
  go_wp2_with (first
      | ((with_reducible first | refine Hp.wpl_box sh ?_ ?_ | refine Hp.wpa sh ?_ ?_ | refine Hp.atl_store ?_ ?_); exact rfl; (try (refine Hp.wsB sh ?_)); clear sh; (try clear F); go_simp; (first | (have tok := tok_b1; clear tok tok_b1; intro b1 w1 sh) | intro b w1 sh | intro w1 sh); have F := sh.fxb)
      | fail)
  go_ret
  exact ⟨by first | rfl | simp, sh.below⟩
end Go.Proofs.YtfcffglgkblidaaDoor
