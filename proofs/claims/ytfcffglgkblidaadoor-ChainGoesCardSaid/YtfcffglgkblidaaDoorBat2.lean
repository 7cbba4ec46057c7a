
/-
  The walks of the parts of batch.read: must, number, digest, event.
-/
import Derived.Test.YtfcffglgkblidaaDoorBatAr
import Derived.Test.YtfcffglgkblidaaDoorEv7
import Derived.Test.YtfcffglgkblidaaDoorWireTexts
import Derived.WalkLawsBesides
namespace Go.Proofs.YtfcffglgkblidaaDoor
open Go.RowKit
set_option linter.unusedVariables false
set_option linter.unusedSimpArgs false

theorem Tryd.z_bt (W : World) : (zeroValue 27).run Tryd.prog W = .ok (.agg (BatP.btA 0 (.slice none 0 0) BatP.zeros)) W := by kernel_rfl
theorem Tryd.z_dg (W : World) : (zeroValue 23).run Tryd.prog W = .ok (.agg (BatP.bA BatP.zeros)) W := by kernel_rfl

set_option maxHeartbeats 4000000 in
set_option maxRecDepth 100000 in
theorem bmust_yes (w : World) : Calls Tryd.prog 72 #[.bool true] w fun e w' => e = .returned (.tuple #[]) ∧ Below w.heap.size w w' := by
  have sh := (Hp.Sh.start (fun _ _ => trivial) : Hp.Sh w w [] (fun _ => True))
  go_enter Tryd.func72, Tryd.ntmps72
  have F := sh.facts; (try simp only [Hp.Facts, Hp.CellsAt, BatP.cellsAt_bt, BatP.cellsAt_bt, Nat.reduceAdd, Hp.c1, Hp.c2] at F)
  go_wp2_with (first
      | ((with_reducible first | refine Hp.wpl_box sh ?_ ?_ | refine Hp.wpa sh ?_ ?_ | refine Hp.atl_store ?_ ?_); exact rfl; (try (refine Hp.wsB sh ?_)); clear sh; (try clear F); go_simp; (first | intro b w1 sh | intro w1 sh); have F := sh.facts; (try simp only [Hp.Facts, Hp.CellsAt, BatP.cellsAt_bt, BatP.cellsAt_bt, Nat.reduceAdd, Hp.c1, Hp.c2] at F))
      | fail)
  go_end0
  exact ⟨rfl, sh.below⟩

set_option maxHeartbeats 4000000 in
set_option maxRecDepth 100000 in
theorem bmust_no (w : World) : Calls Tryd.prog 72 #[.bool false] w fun e w' => e = .panicked [{ v := .iface 28 (.int .i64 3), recovered := false }] ∧ Below w.heap.size w w' := by
  have sh := (Hp.Sh.start (fun _ _ => trivial) : Hp.Sh w w [] (fun _ => True))
  go_enter Tryd.func72, Tryd.ntmps72
  have F := sh.facts; (try simp only [Hp.Facts, Hp.CellsAt, BatP.cellsAt_bt, BatP.cellsAt_bt, Nat.reduceAdd, Hp.c1, Hp.c2] at F)
  go_wp2_with (first
      | ((with_reducible first | refine Hp.wpl_box sh ?_ ?_ | refine Hp.wpa sh ?_ ?_ | refine Hp.atl_store ?_ ?_); exact rfl; (try (refine Hp.wsB sh ?_)); clear sh; (try clear F); go_simp; (first | intro b w1 sh | intro w1 sh); have F := sh.facts; (try simp only [Hp.Facts, Hp.CellsAt, BatP.cellsAt_bt, BatP.cellsAt_bt, Nat.reduceAdd, Hp.c1, Hp.c2] at F))
      | fail)
  exact ⟨rfl, rfl, sh.below⟩

set_option maxHeartbeats 4000000 in
set_option maxRecDepth 100000 in
theorem bnumber_yes (br : Nat) (s : List UInt8) (hs : s.length ≤ 40000) (h0 : (WireP.takeL s).2.2 = 0) {w0 w : World} {H : List Hp.Blk} {D : World → Prop} (sh : Hp.Sh w0 w ((br, #[.string (bstr s)], 93) :: H) D) :
    Calls Tryd.prog 69 #[.pointer (some ⟨br, 0, none⟩)] w fun e w' => e = .returned (.int .u64 ((WireP.takeL s).1 : Int)) ∧ Hp.Sh w0 w' ((br, #[.string (bstr (WireP.takeL s).2.1)], 93) :: H) D := by
  have K0 := Lib.hid (fun W => bmust_yes W)
  have K1 := Lib.hid (fun W => wireTake_any (bstr s) W (by rw [bstr_size]; omega))
  rw [bstr_data] at K1
  obtain ⟨⟨n, r, e0⟩, hx⟩ : ∃ x, WireP.takeL s = x := ⟨_, rfl⟩
  rw [WireP.takeV_of hx] at K1
  rw [hx] at h0 ⊢
  dsimp only at h0
  subst h0
  dsimp only at K1 ⊢
  clear hx hs
  go_enter Tryd.func69, Tryd.ntmps69
  have F := sh.facts; (try simp only [Hp.Facts, Hp.CellsAt, BatP.cellsAt_bt, BatP.cellsAt_bt, Nat.reduceAdd, Hp.c1, Hp.c2] at F)
  go_wp2_with (first
      | ((with_reducible first | refine Hp.wpl_box sh ?_ ?_ | refine Hp.wpa sh ?_ ?_ | refine Hp.atl_store ?_ ?_); exact rfl; (try (refine Hp.wsB sh ?_)); clear sh; (try clear F); go_simp; (first | intro b w1 sh | intro w1 sh); have F := sh.facts; (try simp only [Hp.Facts, Hp.CellsAt, BatP.cellsAt_bt, BatP.cellsAt_bt, Nat.reduceAdd, Hp.c1, Hp.c2] at F))
      | fail)
  go_fit (K1.out _)
  rintro e w1 ⟨rfl, hb⟩
  replace sh := sh.call hb; clear hb; (try clear F); have F := sh.facts; (try simp only [Hp.Facts, Hp.CellsAt, BatP.cellsAt_bt, BatP.cellsAt_bt, Nat.reduceAdd, Hp.c1, Hp.c2] at F)
  go_wp2_with (first
      | ((with_reducible first | refine Hp.wpl_box sh ?_ ?_ | refine Hp.wpa sh ?_ ?_ | refine Hp.atl_store ?_ ?_); exact rfl; (try (refine Hp.wsB sh ?_)); clear sh; (try clear F); go_simp; (first | intro b w1 sh | intro w1 sh); have F := sh.facts; (try simp only [Hp.Facts, Hp.CellsAt, BatP.cellsAt_bt, BatP.cellsAt_bt, Nat.reduceAdd, Hp.c1, Hp.c2] at F))
      | fail)
  go_fit (K0.out _)
  rintro e w1 ⟨rfl, hb⟩
  replace sh := sh.call hb; clear hb; (try clear F); have F := sh.facts; (try simp only [Hp.Facts, Hp.CellsAt, BatP.cellsAt_bt, BatP.cellsAt_bt, Nat.reduceAdd, Hp.c1, Hp.c2] at F)
  go_wp2_with (first
      | ((with_reducible first | refine Hp.wpl_box sh ?_ ?_ | refine Hp.wpa sh ?_ ?_ | refine Hp.atl_store ?_ ?_); exact rfl; (try (refine Hp.wsB sh ?_)); clear sh; (try clear F); go_simp; (first | intro b w1 sh | intro w1 sh); have F := sh.facts; (try simp only [Hp.Facts, Hp.CellsAt, BatP.cellsAt_bt, BatP.cellsAt_bt, Nat.reduceAdd, Hp.c1, Hp.c2] at F))
      | fail)
  go_ret
  exact ⟨rfl, sh⟩

set_option maxHeartbeats 4000000 in
set_option maxRecDepth 100000 in
theorem bnumber_no (br : Nat) (s : List UInt8) (hs : s.length ≤ 40000) (h0 : (WireP.takeL s).2.2 ≠ 0) {w0 w : World} {H : List Hp.Blk} {D : World → Prop} (sh : Hp.Sh w0 w ((br, #[.string (bstr s)], 93) :: H) D) :
    Calls Tryd.prog 69 #[.pointer (some ⟨br, 0, none⟩)] w fun e w' => e = .panicked [{ v := .iface 28 (.int .i64 3), recovered := false }] ∧ Hp.Sh w0 w' ((br, #[.string (bstr s)], 93) :: H) D := by
  have K0 := Lib.hid (fun W => bmust_no W)
  have K1 := Lib.hid (fun W => wireTake_any (bstr s) W (by rw [bstr_size]; omega))
  rw [bstr_data] at K1
  obtain ⟨⟨n, r, e0⟩, hx⟩ : ∃ x, WireP.takeL s = x := ⟨_, rfl⟩
  rw [WireP.takeV_of hx] at K1
  rw [hx] at h0
  dsimp only at h0
  dsimp only at K1
  have d0 : (e0 == 0) = false := by simpa using h0
  clear hx hs h0
  go_enter Tryd.func69, Tryd.ntmps69
  have F := sh.facts; (try simp only [Hp.Facts, Hp.CellsAt, BatP.cellsAt_bt, BatP.cellsAt_bt, Nat.reduceAdd, Hp.c1, Hp.c2] at F)
  go_wp2_with (first
      | ((with_reducible first | refine Hp.wpl_box sh ?_ ?_ | refine Hp.wpa sh ?_ ?_ | refine Hp.atl_store ?_ ?_); exact rfl; (try (refine Hp.wsB sh ?_)); clear sh; (try clear F); go_simp; (first | intro b w1 sh | intro w1 sh); have F := sh.facts; (try simp only [Hp.Facts, Hp.CellsAt, BatP.cellsAt_bt, BatP.cellsAt_bt, Nat.reduceAdd, Hp.c1, Hp.c2] at F))
      | fail)
  go_fit (K1.out _)
  rintro e w1 ⟨rfl, hb⟩
  replace sh := sh.call hb; clear hb; (try clear F); have F := sh.facts; (try simp only [Hp.Facts, Hp.CellsAt, BatP.cellsAt_bt, BatP.cellsAt_bt, Nat.reduceAdd, Hp.c1, Hp.c2] at F)
  go_wp2_with (first
      | ((with_reducible first | refine Hp.wpl_box sh ?_ ?_ | refine Hp.wpa sh ?_ ?_ | refine Hp.atl_store ?_ ?_); exact rfl; (try (refine Hp.wsB sh ?_)); clear sh; (try clear F); go_simp; (first | intro b w1 sh | intro w1 sh); have F := sh.facts; (try simp only [Hp.Facts, Hp.CellsAt, BatP.cellsAt_bt, BatP.cellsAt_bt, Nat.reduceAdd, Hp.c1, Hp.c2] at F))
      | fail)
  go_fit (K0.out _)
  rintro e w1 ⟨rfl, hb⟩
  replace sh := sh.call hb; clear hb; (try clear F); have F := sh.facts; (try simp only [Hp.Facts, Hp.CellsAt, BatP.cellsAt_bt, BatP.cellsAt_bt, Nat.reduceAdd, Hp.c1, Hp.c2] at F)
  go_wp2_with (first
      | ((with_reducible first | refine Hp.wpl_box sh ?_ ?_ | refine Hp.wpa sh ?_ ?_ | refine Hp.atl_store ?_ ?_); exact rfl; (try (refine Hp.wsB sh ?_)); clear sh; (try clear F); go_simp; (first | intro b w1 sh | intro w1 sh); have F := sh.facts; (try simp only [Hp.Facts, Hp.CellsAt, BatP.cellsAt_bt, BatP.cellsAt_bt, Nat.reduceAdd, Hp.c1, Hp.c2] at F))
      | fail)
  exact ⟨rfl, rfl, sh⟩
end Go.Proofs.YtfcffglgkblidaaDoor

/-
  The walks of the reader's digest and event.
-/
namespace Go.Proofs.YtfcffglgkblidaaDoor
open Go.RowKit
set_option linter.unusedVariables false
set_option linter.unusedSimpArgs false

theorem BatP.zeros_len : BatP.zeros.length = 32 := rfl
theorem BatP.dg_size {l : List UInt8} (h : l.length = 32) : (Tryd.prog.info? 23).map (·.size) = some (BatP.bA l).size := by rw [BatP.bA_size, h]; kernel_rfl

set_option maxHeartbeats 4000000 in
set_option maxRecDepth 100000 in
theorem bdigest_no (br : Nat) (s : List UInt8) (hs : s.length < 32) {w0 w : World} {H : List Hp.Blk} {D : World → Prop} (sh : Hp.Sh w0 w ((br, #[.string (bstr s)], 93) :: H) D) :
    Calls Tryd.prog 68 #[.pointer (some ⟨br, 0, none⟩)] w fun e w' => e = .panicked [{ v := .iface 28 (.int .i64 3), recovered := false }] ∧ Hp.Sh w0 w' ((br, #[.string (bstr s)], 93) :: H) D := by
  have K0 := Lib.hid (fun W => bmust_no W)
  have hn32 : (bstr s).size < 32 := by rw [bstr_size]; exact hs
  have d0 : decide ((32 : Int) ≤ ((bstr s).size : Int)) = false := by simp; omega
  have d1 : decide (32 ≤ (bstr s).size) = false := by simp; omega
  clear hs
  go_enter Tryd.func68, Tryd.ntmps68
  have F := sh.facts; (try simp only [Hp.Facts, Hp.CellsAt, BatP.cellsAt_bt, BatP.cellsAt_bt, Nat.reduceAdd, Hp.c1, Hp.c2] at F)
  go_wp2_with (first
      | ((with_reducible first | refine Hp.wpl_box sh ?_ ?_ | refine Hp.wpa sh ?_ ?_ | refine Hp.atl_store ?_ ?_); exact rfl; (try (refine Hp.wsB sh ?_)); clear sh; (try clear F); go_simp; (first | intro b w1 sh | intro w1 sh); have F := sh.facts; (try simp only [Hp.Facts, Hp.CellsAt, BatP.cellsAt_bt, BatP.cellsAt_bt, Nat.reduceAdd, Hp.c1, Hp.c2] at F))
      | fail)
  go_fit (K0.out _)
  rintro e w1 ⟨rfl, hb⟩
  replace sh := sh.call hb; clear hb; (try clear F); have F := sh.facts; (try simp only [Hp.Facts, Hp.CellsAt, BatP.cellsAt_bt, BatP.cellsAt_bt, Nat.reduceAdd, Hp.c1, Hp.c2] at F)
  go_wp2_with (first
      | ((with_reducible first | refine Hp.wpl_box sh ?_ ?_ | refine Hp.wpa sh ?_ ?_ | refine Hp.atl_store ?_ ?_); exact rfl; (try (refine Hp.wsB sh ?_)); clear sh; (try clear F); go_simp; (first | intro b w1 sh | intro w1 sh); have F := sh.facts; (try simp only [Hp.Facts, Hp.CellsAt, BatP.cellsAt_bt, BatP.cellsAt_bt, Nat.reduceAdd, Hp.c1, Hp.c2] at F))
      | fail)
  exact ⟨rfl, rfl, sh.drop2⟩

set_option maxHeartbeats 4000000 in
set_option maxRecDepth 100000 in
theorem bdigest_yes (br : Nat) (s : List UInt8) (hs : 32 ≤ s.length) {w0 w : World} {H : List Hp.Blk} {D : World → Prop} (sh : Hp.Sh w0 w ((br, #[.string (bstr s)], 93) :: H) D) :
    Calls Tryd.prog 68 #[.pointer (some ⟨br, 0, none⟩)] w fun e w' => e = .returned (.agg (BatP.bA (s.take 32))) ∧ Hp.Sh w0 w' ((br, #[.string (bstr (s.drop 32))], 93) :: H) D := by
  have K0 := Lib.hid (fun W => bmust_yes W)
  have hz : 32 ≤ (bstr s).size := by rw [bstr_size]; exact hs
  have hzI : (32 : Int) ≤ ((bstr s).size : Int) := by omega
  have d0 : decide ((32 : Int) ≤ ((bstr s).size : Int)) = true := by simp; omega
  have d1 : decide (32 ≤ (bstr s).size) = true := by simp; omega
  have hx : (bstr s).extract 32 (bstr s).size = bstr (s.drop 32) := by rw [WireP.drop_str, bstr_data]
  have HX := Lib.hid hx
  have hl32 : (s.take 32).length = 32 := by rw [List.length_take]; omega
  have HL := Lib.hid hl32
  clear hx hl32
  go_enter Tryd.func68, Tryd.ntmps68
  have F := sh.facts; (try simp only [Hp.Facts, Hp.CellsAt, BatP.cellsAt_bt, BatP.cellsAt_bt, Nat.reduceAdd, Hp.c1, Hp.c2] at F)
  have tok_b2 : True := trivial
  have tok_b3 : True := trivial
  go_wp2_with (first
      | ((with_reducible first | refine Hp.wpl_box sh ?_ ?_ | refine Hp.wpa sh ?_ ?_ | refine Hp.atl_store ?_ ?_); exact rfl; (try (refine Hp.wsB sh ?_)); clear sh; (try clear F); go_simp; (first | (have tok := tok_b2; clear tok tok_b2; intro b2 w1 sh) | (have tok := tok_b3; clear tok tok_b3; intro b3 w1 sh) | intro b w1 sh | intro w1 sh); have F := sh.facts; (try simp only [Hp.Facts, Hp.CellsAt, BatP.cellsAt_bt, BatP.cellsAt_bt, Nat.reduceAdd, Hp.c1, Hp.c2] at F))
      | fail)
  go_fit (K0.out _)
  rintro e w1 ⟨rfl, hb⟩
  replace sh := sh.call hb; clear hb; (try clear F); have F := sh.facts; (try simp only [Hp.Facts, Hp.CellsAt, BatP.cellsAt_bt, BatP.cellsAt_bt, Nat.reduceAdd, Hp.c1, Hp.c2] at F)
  go_wp2_with (first
      | ((with_reducible first | refine Hp.wpl_box sh ?_ ?_ | refine Hp.wpa sh ?_ ?_ | refine Hp.atl_store ?_ ?_); exact rfl; (try (refine Hp.wsB sh ?_)); clear sh; (try clear F); go_simp; (first | intro b w1 sh | intro w1 sh); have F := sh.facts; (try simp only [Hp.Facts, Hp.CellsAt, BatP.cellsAt_bt, BatP.cellsAt_bt, Nat.reduceAdd, Hp.c1, Hp.c2] at F))
      | fail)
  refine Hp.region_soft (by kernel_rfl) sh (fun _ q => Hp.Sh.drop1 q) ?_; clear sh; (try clear F)
  (try simp only [Hp.p2, Hp.p3])
  (refine Hp.tks (i := 0) (oi := ⟨some 11, Op.slice 23 (Operand.tmp 3) none none none, _, _, _, none⟩) (fun _ q => Hp.Sh.drop1 q) ?_)
  (refine Hp.tks (i := 1) (oi := ⟨some 12, Op.move (Operand.tmp 0), _, _, _, none⟩) (fun _ q => Hp.Sh.drop1 q) ?_)
  (refine Hp.tks (i := 2) (oi := ⟨some 13, Op.nilCheck (Operand.tmp 12), _, _, _, none⟩) (fun _ q => Hp.Sh.drop1 q) ?_)
  (refine Hp.tks (i := 3) (oi := ⟨some 14, Op.fieldAddr 93 (Operand.tmp 13) 0, _, _, _, none⟩) (fun _ q => Hp.Sh.drop1 q) ?_)
  (refine Hp.tk (i := 4) (oi := ⟨some 15, Op.load 9 (Operand.tmp 14), _, _, _, none⟩) _ (fun _ q => Hp.Sh.drop1 q) (fun W hW => by (have F := Hp.Sh.facts hW); (have hd := Hp.Sh.data hW); (try simp only [Hp.Facts, Hp.CellsAt, BatP.cellsAt_bt, BatP.cellsAt_bt, Nat.reduceAdd, Hp.c1, Hp.c2] at F); skip; go_simp; (try with_reducible rfl)) ?_)
  refine Hp.soft_make (i := 5) (o := ⟨some 16, Op.call { callee := Callee.builtin Builtin.copy, args := #[Operand.tmp 11, Operand.tmp 15], argTypes := #[51, 9] }, _, _, _, none⟩) (by kernel_rfl) rfl (by rfl) (fun w1 sh K hK => ?_); (try clear F); (try have F := Hp.Sh.facts sh); (try simp only [Hp.Facts, Hp.CellsAt, BatP.cellsAt_bt, BatP.cellsAt_bt, Nat.reduceAdd, Hp.c1, Hp.c2] at F); (refine Hp.wp_copy_str Tryd.underlying51 (by kernel_rfl) sh 0 rfl rfl s rfl hs rfl ?_; clear sh; intro w1 sh; go_simp); refine hK _ _ _ _ _ _ (fun _ q => Hp.Sh.drop1 q) (fun _ q => q) sh ?_; clear hK K; clear sh; (try clear F); (try simp only [Act.put, Hp.p1, Hp.p2, Hp.p3])
  refine Hp.soft_done (by kernel_rfl) (fun w1 sh => ?_) _; (try clear F); (try have F := Hp.Sh.facts sh); (try simp only [Hp.Facts, Hp.CellsAt, BatP.cellsAt_bt, BatP.cellsAt_bt, Nat.reduceAdd, Hp.c1, Hp.c2] at F)
  go_wp2_with (first
      | ((with_reducible refine Hp.at_ld 23 ?_); (refine Hp.bld_all 0 sh rfl rfl rfl Tryd.underlying23 rfl (BatP.dg_size HL.out) ?_); go_simp)
      | ((with_reducible refine Hp.at_st 23 ?_ ?_); (rotate_left; exact rfl); (refine Hp.bst_arr 1 sh rfl rfl rfl HL.out (by kernel_rfl) ?_); clear sh; (try clear F); go_simp; intro w1 sh; (have F := sh.facts))
      | ((with_reducible first | refine Hp.wpl_box sh ?_ ?_ | refine Hp.wpa sh ?_ ?_ | refine Hp.atl_store ?_ ?_); exact rfl; (try (refine Hp.wsB sh ?_)); clear sh; (try clear F); go_simp; (first | intro b w1 sh | intro w1 sh); have F := sh.facts; (try simp only [Hp.Facts, Hp.CellsAt, BatP.cellsAt_bt, BatP.cellsAt_bt, Nat.reduceAdd, Hp.c1, Hp.c2] at F))
      | fail)
  rw [HX.out] at sh
  exact bodyPost_ret (Hp.res_c rfl rfl (sh.load 1 rfl (by kernel_rfl) (BatP.dg_size HL.out))) rfl ⟨rfl, sh.drop2⟩

theorem BatP.takeV (l : List UInt8) : WireP.takeTextV l = .tuple #[.string (bstr (BatP.takeT l).1), .string (bstr (BatP.takeT l).2.1), .int .i64 (BatP.takeT l).2.2] := by
  unfold WireP.takeTextV BatP.takeT
  split
  · rfl
  split
  · rfl
  split
  · rfl
  · rfl
theorem BatP.takeT_len (l : List UInt8) : (BatP.takeT l).1.length ≤ l.length ∧ (BatP.takeT l).2.1.length ≤ l.length := by
  have h := (WireP.takeL_facts l).2
  unfold BatP.takeT
  split
  · exact ⟨Nat.zero_le _, Nat.zero_le _⟩
  split
  · exact ⟨Nat.zero_le _, Nat.zero_le _⟩
  split
  · exact ⟨Nat.zero_le _, Nat.zero_le _⟩
  · dsimp only
    rw [List.length_take, List.length_drop]
    omega
theorem beget (l : List UInt8) (hl : l.length ≤ 40001) (w : World) : Calls Tryd.prog 83 #[.string (bstr l)] w fun e w' => e = .returned (EvP.getV l) ∧ Below w.heap.size w w' := by
  cases l with
  | nil => exact eget_nil w
  | cons c l => exact eget_cons c l (by simpa using hl) w

/-- The reader panics: what it holds then does not matter. -/
def BatP.PanP (br : Nat) (w0 : World) (H : List Hp.Blk) (D : World → Prop) (e : Ending) (w' : World) : Prop := e = .panicked [{ v := .iface 28 (.int .i64 3), recovered := false }] ∧ ∃ t, Hp.Sh w0 w' ((br, #[.string t], 93) :: H) D

set_option maxHeartbeats 4000000 in
set_option maxRecDepth 100000 in
theorem bevent_yes (br : Nat) (s : List UInt8) (hs : s.length ≤ 40000) (q t p k a b : Int) {r : List UInt8} (h0 : BatP.evT s = some ((q, t, p, k, a, b), r)) {w0 w : World} {H : List Hp.Blk} {D : World → Prop} (sh : Hp.Sh w0 w ((br, #[.string (bstr s)], 93) :: H) D) :
    Calls Tryd.prog 71 #[.pointer (some ⟨br, 0, none⟩)] w fun e w' => e = .returned (.agg #[.int .u64 q, .int .i64 t, .int .i64 p, .int .i64 k, .int .i64 a, .int .i64 b]) ∧ Hp.Sh w0 w' ((br, #[.string (bstr r)], 93) :: H) D := by
  have K0 := Lib.hid (fun W => bmust_yes W)
  have K1 := Lib.hid (fun W => wireTakeText_any (bstr s) W (by rw [bstr_size]; omega))
  rw [bstr_data, BatP.takeV] at K1
  have hlen := (BatP.takeT_len s).1
  unfold BatP.evT at h0
  obtain ⟨⟨t9, r2, e0⟩, hx⟩ : ∃ x, BatP.takeT s = x := ⟨_, rfl⟩
  rw [hx] at h0 K1 hlen
  dsimp only at h0 K1 hlen
  split at h0
  · cases h0
  rename_i he0
  obtain rfl : e0 = 0 := Decidable.not_not.1 he0
  split at h0
  · cases h0
  rename_i hg0
  have hg0' := Decidable.not_not.1 hg0
  have h2 := Option.some.inj h0
  have ex : (EvP.getE t9).1 = (q, t, p, k, a, b) := congrArg (·.1) h2
  obtain rfl : r2 = r := congrArg (·.2) h2
  have K2 := Lib.hid (fun W => beget t9 (by omega) W)
  rw [show EvP.getV t9 = .tuple #[.agg #[.int .u64 q, .int .i64 t, .int .i64 p, .int .i64 k, .int .i64 a, .int .i64 b], .int .i64 0] by unfold EvP.getV; rw [ex, hg0']; rfl] at K2
  clear h2 ex hg0' hg0 h0 he0 hx hlen hs
  go_enter Tryd.func71, Tryd.ntmps71
  have F := sh.facts; (try simp only [Hp.Facts, Hp.CellsAt, BatP.cellsAt_bt, BatP.cellsAt_bt, Nat.reduceAdd, Hp.c1, Hp.c2] at F)
  have tok_b2 : True := trivial
  go_wp2_with (first
      | ((with_reducible first | refine Hp.wpl_box sh ?_ ?_ | refine Hp.wpa sh ?_ ?_ | refine Hp.atl_store ?_ ?_); exact rfl; (try (refine Hp.wsB sh ?_)); clear sh; (try clear F); go_simp; (first | (have tok := tok_b2; clear tok tok_b2; intro b2 w1 sh) | intro b w1 sh | intro w1 sh); have F := sh.facts; (try simp only [Hp.Facts, Hp.CellsAt, BatP.cellsAt_bt, BatP.cellsAt_bt, Nat.reduceAdd, Hp.c1, Hp.c2] at F))
      | fail)
  go_fit (K1.out _)
  rintro e w1 ⟨rfl, hb⟩
  replace sh := sh.call hb; clear hb; (try clear F); have F := sh.facts; (try simp only [Hp.Facts, Hp.CellsAt, BatP.cellsAt_bt, BatP.cellsAt_bt, Nat.reduceAdd, Hp.c1, Hp.c2] at F)
  go_wp2_with (first
      | ((with_reducible first | refine Hp.wpl_box sh ?_ ?_ | refine Hp.wpa sh ?_ ?_ | refine Hp.atl_store ?_ ?_); exact rfl; (try (refine Hp.wsB sh ?_)); clear sh; (try clear F); go_simp; (first | intro b w1 sh | intro w1 sh); have F := sh.facts; (try simp only [Hp.Facts, Hp.CellsAt, BatP.cellsAt_bt, BatP.cellsAt_bt, Nat.reduceAdd, Hp.c1, Hp.c2] at F))
      | fail)
  go_fit (K0.out _)
  rintro e w1 ⟨rfl, hb⟩
  replace sh := sh.call hb; clear hb; (try clear F); have F := sh.facts; (try simp only [Hp.Facts, Hp.CellsAt, BatP.cellsAt_bt, BatP.cellsAt_bt, Nat.reduceAdd, Hp.c1, Hp.c2] at F)
  go_wp2_with (first
      | ((with_reducible first | refine Hp.wpl_box sh ?_ ?_ | refine Hp.wpa sh ?_ ?_ | refine Hp.atl_store ?_ ?_); exact rfl; (try (refine Hp.wsB sh ?_)); clear sh; (try clear F); go_simp; (first | intro b w1 sh | intro w1 sh); have F := sh.facts; (try simp only [Hp.Facts, Hp.CellsAt, BatP.cellsAt_bt, BatP.cellsAt_bt, Nat.reduceAdd, Hp.c1, Hp.c2] at F))
      | fail)
  go_fit (K2.out _)
  rintro e w1 ⟨rfl, hb⟩
  replace sh := sh.call hb; clear hb; (try clear F); have F := sh.facts; (try simp only [Hp.Facts, Hp.CellsAt, BatP.cellsAt_bt, BatP.cellsAt_bt, Nat.reduceAdd, Hp.c1, Hp.c2] at F)
  have tok_b6 : True := trivial
  go_wp2_with (first
      | ((with_reducible first | refine Hp.wpl_box sh ?_ ?_ | refine Hp.wpa sh ?_ ?_ | refine Hp.atl_store ?_ ?_); exact rfl; (try (refine Hp.wsB sh ?_)); clear sh; (try clear F); go_simp; (first | (have tok := tok_b6; clear tok tok_b6; intro b6 w1 sh) | intro b w1 sh | intro w1 sh); have F := sh.facts; (try simp only [Hp.Facts, Hp.CellsAt, BatP.cellsAt_bt, BatP.cellsAt_bt, Nat.reduceAdd, Hp.c1, Hp.c2] at F))
      | fail)
  go_fit (K0.out _)
  rintro e w1 ⟨rfl, hb⟩
  replace sh := sh.call hb; clear hb; (try clear F); have F := sh.facts; (try simp only [Hp.Facts, Hp.CellsAt, BatP.cellsAt_bt, BatP.cellsAt_bt, Nat.reduceAdd, Hp.c1, Hp.c2] at F)
  go_wp2_with (first
      | ((with_reducible first | refine Hp.wpl_box sh ?_ ?_ | refine Hp.wpa sh ?_ ?_ | refine Hp.atl_store ?_ ?_); exact rfl; (try (refine Hp.wsB sh ?_)); clear sh; (try clear F); go_simp; (first | intro b w1 sh | intro w1 sh); have F := sh.facts; (try simp only [Hp.Facts, Hp.CellsAt, BatP.cellsAt_bt, BatP.cellsAt_bt, Nat.reduceAdd, Hp.c1, Hp.c2] at F))
      | fail)
  exact bodyPost_ret (Hp.res_c rfl rfl (sh.load 1 rfl (by kernel_rfl) (by kernel_rfl))) rfl ⟨rfl, sh.drop2⟩

set_option maxHeartbeats 4000000 in
set_option maxRecDepth 100000 in
theorem bevent_no (br : Nat) (s : List UInt8) (hs : s.length ≤ 40000) (h0 : BatP.evT s = none) {w0 w : World} {H : List Hp.Blk} {D : World → Prop} (sh : Hp.Sh w0 w ((br, #[.string (bstr s)], 93) :: H) D) :
    Calls Tryd.prog 71 #[.pointer (some ⟨br, 0, none⟩)] w fun e w' => BatP.PanP br w0 H D e w' := by
  have K0 := Lib.hid (fun W => bmust_yes W)
  have K9 := Lib.hid (fun W => bmust_no W)
  have K1 := Lib.hid (fun W => wireTakeText_any (bstr s) W (by rw [bstr_size]; omega))
  rw [bstr_data, BatP.takeV] at K1
  have hlen := (BatP.takeT_len s).1
  unfold BatP.evT at h0
  obtain ⟨⟨t9, r2, e0⟩, hx⟩ : ∃ x, BatP.takeT s = x := ⟨_, rfl⟩
  rw [hx] at h0 K1 hlen
  dsimp only at h0 K1 hlen
  by_cases he0 : e0 = 0
  · subst he0
    rw [if_neg (by simp)] at h0
    split at h0
    · rename_i hg0
      have K2 := Lib.hid (fun W => beget t9 (by omega) W)
      obtain ⟨e1, he1⟩ : ∃ x, (EvP.getE t9).2 = x := ⟨_, rfl⟩
      rw [show EvP.getV t9 = .tuple #[.agg #[.int .u64 0, .int .i64 0, .int .i64 0, .int .i64 0, .int .i64 0, .int .i64 0], .int .i64 e1] by unfold EvP.getV; rw [EvP.get_none hg0, he1]; rfl] at K2
      have d0 : (e1 == 0) = false := by rw [← he1]; simpa using hg0
      clear h0 hg0 he1 hx hlen hs
      go_enter Tryd.func71, Tryd.ntmps71
      have F := sh.facts; (try simp only [Hp.Facts, Hp.CellsAt, BatP.cellsAt_bt, BatP.cellsAt_bt, Nat.reduceAdd, Hp.c1, Hp.c2] at F)
      have tok_b2 : True := trivial
      go_wp2_with (first
          | ((with_reducible first | refine Hp.wpl_box sh ?_ ?_ | refine Hp.wpa sh ?_ ?_ | refine Hp.atl_store ?_ ?_); exact rfl; (try (refine Hp.wsB sh ?_)); clear sh; (try clear F); go_simp; (first | (have tok := tok_b2; clear tok tok_b2; intro b2 w1 sh) | intro b w1 sh | intro w1 sh); have F := sh.facts; (try simp only [Hp.Facts, Hp.CellsAt, BatP.cellsAt_bt, BatP.cellsAt_bt, Nat.reduceAdd, Hp.c1, Hp.c2] at F))
          | fail)
      go_fit (K1.out _)
      rintro e w1 ⟨rfl, hb⟩
      replace sh := sh.call hb; clear hb; (try clear F); have F := sh.facts; (try simp only [Hp.Facts, Hp.CellsAt, BatP.cellsAt_bt, BatP.cellsAt_bt, Nat.reduceAdd, Hp.c1, Hp.c2] at F)
      go_wp2_with (first
          | ((with_reducible first | refine Hp.wpl_box sh ?_ ?_ | refine Hp.wpa sh ?_ ?_ | refine Hp.atl_store ?_ ?_); exact rfl; (try (refine Hp.wsB sh ?_)); clear sh; (try clear F); go_simp; (first | intro b w1 sh | intro w1 sh); have F := sh.facts; (try simp only [Hp.Facts, Hp.CellsAt, BatP.cellsAt_bt, BatP.cellsAt_bt, Nat.reduceAdd, Hp.c1, Hp.c2] at F))
          | fail)
      go_fit (K0.out _)
      rintro e w1 ⟨rfl, hb⟩
      replace sh := sh.call hb; clear hb; (try clear F); have F := sh.facts; (try simp only [Hp.Facts, Hp.CellsAt, BatP.cellsAt_bt, BatP.cellsAt_bt, Nat.reduceAdd, Hp.c1, Hp.c2] at F)
      go_wp2_with (first
          | ((with_reducible first | refine Hp.wpl_box sh ?_ ?_ | refine Hp.wpa sh ?_ ?_ | refine Hp.atl_store ?_ ?_); exact rfl; (try (refine Hp.wsB sh ?_)); clear sh; (try clear F); go_simp; (first | intro b w1 sh | intro w1 sh); have F := sh.facts; (try simp only [Hp.Facts, Hp.CellsAt, BatP.cellsAt_bt, BatP.cellsAt_bt, Nat.reduceAdd, Hp.c1, Hp.c2] at F))
          | fail)
      go_fit (K2.out _)
      rintro e w1 ⟨rfl, hb⟩
      replace sh := sh.call hb; clear hb; (try clear F); have F := sh.facts; (try simp only [Hp.Facts, Hp.CellsAt, BatP.cellsAt_bt, BatP.cellsAt_bt, Nat.reduceAdd, Hp.c1, Hp.c2] at F)
      have tok_b6 : True := trivial
      go_wp2_with (first
          | ((with_reducible first | refine Hp.wpl_box sh ?_ ?_ | refine Hp.wpa sh ?_ ?_ | refine Hp.atl_store ?_ ?_); exact rfl; (try (refine Hp.wsB sh ?_)); clear sh; (try clear F); go_simp; (first | (have tok := tok_b6; clear tok tok_b6; intro b6 w1 sh) | intro b w1 sh | intro w1 sh); have F := sh.facts; (try simp only [Hp.Facts, Hp.CellsAt, BatP.cellsAt_bt, BatP.cellsAt_bt, Nat.reduceAdd, Hp.c1, Hp.c2] at F))
          | fail)
      go_fit (K9.out _)
      rintro e w1 ⟨rfl, hb⟩
      replace sh := sh.call hb; clear hb; (try clear F); have F := sh.facts; (try simp only [Hp.Facts, Hp.CellsAt, BatP.cellsAt_bt, BatP.cellsAt_bt, Nat.reduceAdd, Hp.c1, Hp.c2] at F)
      go_wp2_with (first
          | ((with_reducible first | refine Hp.wpl_box sh ?_ ?_ | refine Hp.wpa sh ?_ ?_ | refine Hp.atl_store ?_ ?_); exact rfl; (try (refine Hp.wsB sh ?_)); clear sh; (try clear F); go_simp; (first | intro b w1 sh | intro w1 sh); have F := sh.facts; (try simp only [Hp.Facts, Hp.CellsAt, BatP.cellsAt_bt, BatP.cellsAt_bt, Nat.reduceAdd, Hp.c1, Hp.c2] at F))
          | fail)
      exact ⟨rfl, rfl, _, sh.drop2⟩
    · cases h0
  · have d0 : (e0 == 0) = false := by simpa using he0
    clear h0 hx hlen hs he0
    go_enter Tryd.func71, Tryd.ntmps71
    have F := sh.facts; (try simp only [Hp.Facts, Hp.CellsAt, BatP.cellsAt_bt, BatP.cellsAt_bt, Nat.reduceAdd, Hp.c1, Hp.c2] at F)
    have tok_b2 : True := trivial
    go_wp2_with (first
        | ((with_reducible first | refine Hp.wpl_box sh ?_ ?_ | refine Hp.wpa sh ?_ ?_ | refine Hp.atl_store ?_ ?_); exact rfl; (try (refine Hp.wsB sh ?_)); clear sh; (try clear F); go_simp; (first | (have tok := tok_b2; clear tok tok_b2; intro b2 w1 sh) | intro b w1 sh | intro w1 sh); have F := sh.facts; (try simp only [Hp.Facts, Hp.CellsAt, BatP.cellsAt_bt, BatP.cellsAt_bt, Nat.reduceAdd, Hp.c1, Hp.c2] at F))
        | fail)
    go_fit (K1.out _)
    rintro e w1 ⟨rfl, hb⟩
    replace sh := sh.call hb; clear hb; (try clear F); have F := sh.facts; (try simp only [Hp.Facts, Hp.CellsAt, BatP.cellsAt_bt, BatP.cellsAt_bt, Nat.reduceAdd, Hp.c1, Hp.c2] at F)
    go_wp2_with (first
        | ((with_reducible first | refine Hp.wpl_box sh ?_ ?_ | refine Hp.wpa sh ?_ ?_ | refine Hp.atl_store ?_ ?_); exact rfl; (try (refine Hp.wsB sh ?_)); clear sh; (try clear F); go_simp; (first | intro b w1 sh | intro w1 sh); have F := sh.facts; (try simp only [Hp.Facts, Hp.CellsAt, BatP.cellsAt_bt, BatP.cellsAt_bt, Nat.reduceAdd, Hp.c1, Hp.c2] at F))
        | fail)
    go_fit (K9.out _)
    rintro e w1 ⟨rfl, hb⟩
    replace sh := sh.call hb; clear hb; (try clear F); have F := sh.facts; (try simp only [Hp.Facts, Hp.CellsAt, BatP.cellsAt_bt, BatP.cellsAt_bt, Nat.reduceAdd, Hp.c1, Hp.c2] at F)
    go_wp2_with (first
        | ((with_reducible first | refine Hp.wpl_box sh ?_ ?_ | refine Hp.wpa sh ?_ ?_ | refine Hp.atl_store ?_ ?_); exact rfl; (try (refine Hp.wsB sh ?_)); clear sh; (try clear F); go_simp; (first | intro b w1 sh | intro w1 sh); have F := sh.facts; (try simp only [Hp.Facts, Hp.CellsAt, BatP.cellsAt_bt, BatP.cellsAt_bt, Nat.reduceAdd, Hp.c1, Hp.c2] at F))
        | fail)
    exact ⟨rfl, rfl, _, sh.drop1⟩
end Go.Proofs.YtfcffglgkblidaaDoor
