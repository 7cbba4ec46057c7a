
/-
  The walk of the chapter's example.
-/
import Derived.Test.YtfcffglgkblidaaDoorBat11
import Derived.Test.YtfcffglgkblidaaDoorBat8
namespace Go.Proofs.YtfcffglgkblidaaDoor
open Go.RowKit
set_option linter.unusedVariables false
set_option linter.unusedSimpArgs false
namespace BatP
def exE : Ev := (7, 0, -1, 1, 0, 0)
def exB : Ba := (7, [exE], zeros)
theorem ex_is : isB exB = true := by kernel_rfl
theorem ex_ok : Ok exB := ⟨by decide, rfl, fun x hx => by simp only [exB, List.mem_cons, List.not_mem_nil, or_false] at hx; subst hx; decide⟩
theorem ex_evb : ∀ x ∈ [exE], EvP.EvB x := by
  intro x hx
  simp only [List.mem_cons, List.not_mem_nil, or_false] at hx
  subst hx
  unfold EvP.EvB; decide
theorem p0 : WireP.putL 0 = [0] := WireP.putL_small (by decide)
theorem p1 : WireP.putL 1 = [1] := WireP.putL_small (by decide)
theorem p6 : WireP.putL 6 = [6] := WireP.putL_small (by decide)
theorem p7 : WireP.putL 7 = [7] := WireP.putL_small (by decide)
theorem ex_body : bodyL exB = zeros ++ [7, 1, 6, 1, 7, 0, 0, 0, 0] := by
  have e1 : EvP.putE exE = [1, 7, 0, 0, 0, 0] := by
    show UInt8.ofNat 1 :: (WireP.putL 7 ++ WireP.putL 0 ++ WireP.putL 0 ++ WireP.putL 0 ++ WireP.putL 0) = _
    rw [p7, p0]; rfl
  show zeros ++ (WireP.putL 7 ++ (WireP.putL 1 ++ ((WireP.putL (EvP.putE exE).length ++ EvP.putE exE) ++ []))) = _
  rw [e1, p7, p1, show ([1, 7, 0, 0, 0, 0] : List UInt8).length = 6 from rfl, p6]
  rfl
theorem ex_len : (outL exB).length = 50 := by rw [out_len, ex_body]; rfl
theorem ex_take : (outL exB).take 5 = [66, 0, 0, 0, 41] := by
  unfold outL sumL frameL
  rw [ex_body]
  rfl
theorem ex_get : getB (outL exB ++ [120]) = ((exB, 50), 0) := by rw [get_put ex_ok ex_is, ex_len]
theorem ex_put : putB exB = (outL exB, 0) := putB_yes ex_is
theorem ex_x : getB [120] = noB 3 := by rfl
theorem ex_none : putB (0, [], zeros) = ([], 1) := by rfl
end BatP

end Go.Proofs.YtfcffglgkblidaaDoor

/-
  The walks of the reference's Bytes and Put.
-/
namespace Go.Proofs.YtfcffglgkblidaaDoor
open Go.RowKit
set_option linter.unusedVariables false
set_option linter.unusedSimpArgs false
namespace Hp
theorem bexec_prev {P : Program} {w0 w : World} {H : List Blk} {D : World → Prop} {ev : Operand → Value} {dst : Option Tmp} {ty T : TypeId} {pos : String} {af : Array Edge} {gd : Option (Nat × Bool)} {x : Operand} (i : Nat) {b : Nat} {f : Int} {v : Value} {p : List UInt8} {t : TypeId} {d : TypeDesc} (sh : Sh w0 w H D)
    (hx : ev x = .pointer (some ⟨b, 2, none⟩)) (hi : H[i]? = some (b, BatP.btA f v p, t)) (hu : P.underlying T = some d) (hd : d.isRow = true) (hs : (P.info? T).map (·.size) = some p.length) :
    (execOp ev ⟨dst, .load T x, ty, pos, af, gd⟩).run P w = .ok (.value (.agg (BatP.bA p))) w := by
  have hb := sh.own _ (List.mem_of_getElem? hi)
  have h := run_loadVar_mid (P := P) w b 2 T (bcells p) d (fun j u hu => boxH hb (2 + j) (by
    have e : (BatP.btA f v p)[2 + j]? = (bcells p)[j]? := by
      unfold BatP.btA
      rw [List.getElem?_toArray, show 2 + j = (j + 1) + 1 by omega, List.getElem?_cons_succ, List.getElem?_cons_succ]
    rw [e]; exact hu)) hu hd (by rw [hs, bcells_length])
  have h3 : (loadVar T ⟨b, 2, none⟩).run P w = .ok (.agg (BatP.bA p)) w := h
  simp [execOp, hx, Instr.loadAt, Instr.sureAddr, h3, Result.andThen]
end Hp
theorem BatP.bcells_next {d : List UInt8} {j : Nat} (h : j < d.length) : bcells (d.take j) ++ [.int .u8 ((d.getD j 0).toNat : Int)] = bcells (d.take (j + 1)) := by
  rw [List.take_succ_eq_append_getElem h, bcells_snoc, List.getD_eq_getElem?_getD, List.getElem?_eq_getElem h]; rfl
theorem brcrc' (b : ByteArray) (w : World) (hs : b.size ≤ 9223372036854775807) : Calls Tryd.prog 47 #[.string b] w fun e w' => e = .returned (.int .u32 (CrcP.ofL b.data.toList).toNat) ∧ Below w.heap.size w w' := by
  refine (crcRefOf_any b w hs).mono ?_
  rintro e w' ⟨rfl, rfl⟩
  exact ⟨rfl, Below.refl _ _⟩

set_option maxHeartbeats 4000000 in
set_option maxRecDepth 100000 in
theorem brbytes (d : List UInt8) (hd : d.length = 32) (w : World) : Calls Tryd.prog 42 #[.agg (BatP.bA d)] w fun e w' => e = .returned (.string (bstr d)) ∧ Below w.heap.size w w' := by
  have sh := (Hp.Sh.start (fun _ _ => trivial) : Hp.Sh w w [] (fun _ => True))
  have HR0 := Lib.hid (Hp.RowIs.nil 5 1)
  have HD := Lib.hid hd
  clear hd
  go_enter Tryd.func42, Tryd.ntmps42
  have F := sh.facts; (try simp only [Hp.Facts, Hp.CellsAt, BatP.cellsAt_bt, BatP.cellsAt_bt, Nat.reduceAdd, Hp.c1, Hp.c2] at F)
  have tok_b1 : True := trivial
  go_wp2_with (first
      | ((with_reducible first | refine Hp.wpl_box sh ?_ ?_ | refine Hp.wpa sh ?_ ?_ | refine Hp.atl_store ?_ ?_); exact rfl; (try (refine Hp.wsB sh ?_)); clear sh; (try clear F); go_simp; (first | (have tok := tok_b1; clear tok tok_b1; intro b1 w1 sh) | intro b w1 sh | intro w1 sh); have F := sh.facts; (try simp only [Hp.Facts, Hp.CellsAt, BatP.cellsAt_bt, BatP.cellsAt_bt, Nat.reduceAdd, Hp.c1, Hp.c2] at F))
      | fail)
  go_loopw [3, 4] (fun v i wr => ∃ (j : Nat) (R : List Hp.Blk), i = .int .i64 j ∧ j ≤ 32 ∧ Hid (Hp.RowIs 5 1 v j (bcells (d.take j)) R) ∧ Hp.Sh w wr ((b1, BatP.bA d, 23) :: R) (fun _ => True)) (fun _ i _ => 32 - (intOf i).toNat)
  case atStart => exact ⟨0, [], rfl, by omega, HR0.out, sh⟩
  case round =>
    clear sh F HR0
    obtain ⟨j, R, rfl, hj, HR, sh⟩ := hrel
    obtain ⟨s4, c4, hv4, -, -, -⟩ := HR.out.slice
    subst hv4
    by_cases hlt : j < 32
    · have hlI : (j : Int) < 32 := by omega
      have hjd : j < d.length := by rw [HD.out]; exact hlt
      have hcell := Hp.boxH (sh.own _ (List.mem_cons_self ..)) j (v := .int .u8 ((d.getD j 0).toNat : Int)) (by simp [BatP.bA, bcells, List.getD_eq_getElem?_getD, hjd])
      dsimp only at hcell
      have HNX := Lib.hid (BatP.bcells_next hjd)
      generalize d.getD j 0 = c9 at hcell HNX
      have F : True := trivial
      go_wp2_with (first
          | ((with_reducible refine Hp.atl_lit ?_ ?_); exact rfl; (refine Hp.wp_lit 1 [.int .u8 (c9.toNat : Int)] Tryd.winfo_u8 Tryd.underlying51 sh rfl rfl (by omega) rfl ?_); clear sh; (try clear F); intro bl w1 sh; replace sh := sh.freeze1 (vs := [.int .u8 (c9.toNat : Int)]) (fun i v h => by simpa using h); replace sh : Hp.Sh w _ (R ++ [_]) _ := Hp.Sh.front (A := [_]) sh; (have F : True := trivial); go_simp)
          | ((with_reducible refine Hp.atl_append 9 ?_ ?_); exact rfl; (refine Hp.wp_append (R := R) (H := [_]) (news := [.int .u8 (c9.toNat : Int)]) Tryd.winfo_u8 Tryd.underlying51 (by decide) rfl (by decide) sh HR.out rfl rfl rfl sh.data.1 (fun h => by cases h) (Hp.ones_mem rfl) (by omega) ?_); clear sh; (try clear F); intro v1 R1 w1 sh hr; rw [HNX.out] at hr; have HR1 := Lib.hid hr; clear hr; replace sh : Hp.Sh w _ (_ :: R1) _ := sh.perm List.perm_append_comm; (have F : True := trivial); go_simp)
          | ((with_reducible first | refine Hp.wpl_box sh ?_ ?_ | refine Hp.wpa sh ?_ ?_ | refine Hp.atl_store ?_ ?_); exact rfl; (try (refine Hp.wsB sh ?_)); clear sh; (try clear F); go_simp; (first | intro b w1 sh | intro w1 sh); have F := sh.facts; (try simp only [Hp.Facts, Hp.CellsAt, BatP.cellsAt_bt, BatP.cellsAt_bt, Nat.reduceAdd, Hp.c1, Hp.c2] at F))
          | fail)
      go_roundw
      case rel => exact ⟨j + 1, R1, by go_num, by omega, HR1.out, sh.imp (fun _ _ => trivial)⟩
      case measure => simp [intOf]; omega
    · obtain rfl : j = 32 := by omega
      replace sh : Hp.Sh w _ [_] _ := (Hp.Sh.front (A := [_]) sh).freeze HR.out
      have hcv := Hp.conv_rdv (P := Tryd.prog) (n := 32) (cap := c4) sh.data.1 (by rw [List.length_take, HD.out]; rfl) Tryd.underlying51 Tryd.underlying5 Tryd.underlying9
      rw [show d.take 32 = d by rw [← HD.out, List.take_length]] at hcv
      have F : True := trivial
      go_wp2_with (first
          | ((with_reducible first | refine Hp.wpl_box sh ?_ ?_ | refine Hp.wpa sh ?_ ?_ | refine Hp.atl_store ?_ ?_); exact rfl; (try (refine Hp.wsB sh ?_)); clear sh; (try clear F); go_simp; (first | intro b w1 sh | intro w1 sh); have F := sh.facts; (try simp only [Hp.Facts, Hp.CellsAt, BatP.cellsAt_bt, BatP.cellsAt_bt, Nat.reduceAdd, Hp.c1, Hp.c2] at F))
          | fail)
      go_ret
      exact ⟨rfl, sh.below⟩

set_option maxHeartbeats 4000000 in
set_option maxRecDepth 100000 in
theorem brput (f : Int) (s : Option Addr) (n c : Nat) (l : List EvP.Ev) (prev : List UInt8) (hp : prev.length = 32) (hf : 0 ≤ f ∧ f ≤ 18446744073709551615) (hn : n = l.length) (hnc : n ≤ c) (hm : n ≤ 9223372036854775807) (hE : ∀ x ∈ l, EvP.EvB x) (w : World) (hR : Hp.RdV w s (l.flatMap EvP.evc)) :
    Calls Tryd.prog 25 #[.agg (BatP.btA f (.slice s n c) prev)] w fun e w' => e = .returned (.tuple #[.string (bstr (BatP.putB (f, l, prev)).1), .int .i64 (BatP.putB (f, l, prev)).2]) ∧ Below w.heap.size w w' := by
  have sh := (Hp.Sh.start (RdV_rob hR) : Hp.Sh w w [] (fun W => Hp.RdV W s (l.flatMap EvP.evc)))
  have K1 := Lib.hid (fun W q => bris f s n c l prev hn hnc hm hE W q)
  have HPL := Lib.hid hp
  cases hb : BatP.isB (f, l, prev) with
  | false =>
    rw [hb] at K1
    have HX := Lib.hid (BatP.putB_no hb)
    clear hp hf hn hE hR hb
    go_enter Tryd.func25, Tryd.ntmps25
    have F := sh.facts; (try simp only [Hp.Facts, Hp.CellsAt, BatP.cellsAt_bt, BatP.cellsAt_bt, Nat.reduceAdd, Hp.c1, Hp.c2] at F)
    have tok_b1 : True := trivial
    go_wp2_with (first
        | ((with_reducible refine Hp.at_ld 27 ?_); (refine Hp.bld_g 0 sh rfl rfl rfl (by kernel_rfl) (BatP.bt_size HPL.out) ?_); go_simp)
        | ((with_reducible first | refine Hp.wpl_box sh ?_ ?_ | refine Hp.wpa sh ?_ ?_ | refine Hp.atl_store ?_ ?_); exact rfl; (try (refine Hp.wsB sh ?_)); clear sh; (try clear F); go_simp; (first | (have tok := tok_b1; clear tok tok_b1; intro b1 w1 sh) | intro b w1 sh | intro w1 sh); have F := sh.facts; (try simp only [Hp.Facts, Hp.CellsAt, BatP.cellsAt_bt, BatP.cellsAt_bt, Nat.reduceAdd, Hp.c1, Hp.c2] at F))
        | fail)
    go_fit (K1.out _ sh.data)
    rintro e w1 ⟨rfl, hb⟩
    replace sh := sh.call hb; clear hb; (try clear F); have F := sh.facts; (try simp only [Hp.Facts, Hp.CellsAt, BatP.cellsAt_bt, BatP.cellsAt_bt, Nat.reduceAdd, Hp.c1, Hp.c2] at F)
    go_wp2_with (first
        | ((with_reducible first | refine Hp.wpl_box sh ?_ ?_ | refine Hp.wpa sh ?_ ?_ | refine Hp.atl_store ?_ ?_); exact rfl; (try (refine Hp.wsB sh ?_)); clear sh; (try clear F); go_simp; (first | intro b w1 sh | intro w1 sh); have F := sh.facts; (try simp only [Hp.Facts, Hp.CellsAt, BatP.cellsAt_bt, BatP.cellsAt_bt, Nat.reduceAdd, Hp.c1, Hp.c2] at F))
        | fail)
    go_ret2
    exact ⟨by rw [HX.out]; rfl, sh.below⟩
  | true =>
    rw [hb] at K1
    have hi := BatP.isB_iff.1 hb
    dsimp only at hi
    have hok : BatP.Ok (f, l, prev) := ⟨hf, hp, fun x hx => (hE x hx).1⟩
    have hall := hok.all hb
    dsimp only at hall
    have HX := Lib.hid (BatP.putB_yes hb)
    have HALL := Lib.hid hall
    have HN := Lib.hid hn
    have HE := Lib.hid hE
    have KY := Lib.hid (fun W => brbytes prev hp W)
    have KF := Lib.hid (fun W => wireRefPut_any f.toNat W (by omega))
    rw [show ((f.toNat : Nat) : Int) = f by omega] at KF
    have KN := Lib.hid (fun W => wireRefPut_any n W (by omega))
    have z1 : IntKind.u64.wrap (n : Int) = (n : Int) := by simp [IntKind.wrap, IntKind.bits, IntKind.signed]; omega
    have q1 := WireP.putL_le10 f.toNat (by omega)
    have q2 := WireP.putL_le10 n (by omega)
    have hn256 : n ≤ 256 := by omega
    have HBL := Lib.hid (BatP.body_len hok hb)
    obtain ⟨B3, hB3⟩ : ∃ B, prev ++ WireP.putL f.toNat ++ WireP.putL n = B := ⟨_, rfl⟩
    have hl3 : B3.length ≤ 52 := by rw [← hB3, List.length_append, List.length_append, hp]; omega
    have HB := Lib.hid (show prev ++ (WireP.putL f.toNat ++ WireP.putL n) = B3 by rw [← hB3, List.append_assoc])
    have HB3 := Lib.hid hB3
    have hp32 : prev.length ≤ 32 := by omega
    clear hp hf hn hE hR hb hi hok hall hB3
    go_enter Tryd.func25, Tryd.ntmps25
    have F := sh.facts; (try simp only [Hp.Facts, Hp.CellsAt, BatP.cellsAt_bt, BatP.cellsAt_bt, Nat.reduceAdd, Hp.c1, Hp.c2] at F)
    have tok_b1 : True := trivial
    go_wp2_with (first
        | ((with_reducible refine Hp.at_ld 27 ?_); (refine Hp.bld_g 0 sh rfl rfl rfl (by kernel_rfl) (BatP.bt_size HPL.out) ?_); go_simp)
        | ((with_reducible first | refine Hp.wpl_box sh ?_ ?_ | refine Hp.wpa sh ?_ ?_ | refine Hp.atl_store ?_ ?_); exact rfl; (try (refine Hp.wsB sh ?_)); clear sh; (try clear F); go_simp; (first | (have tok := tok_b1; clear tok tok_b1; intro b1 w1 sh) | intro b w1 sh | intro w1 sh); have F := sh.facts; (try simp only [Hp.Facts, Hp.CellsAt, BatP.cellsAt_bt, BatP.cellsAt_bt, Nat.reduceAdd, Hp.c1, Hp.c2] at F))
        | fail)
    go_fit (K1.out _ sh.data)
    rintro e w1 ⟨rfl, hb⟩
    replace sh := sh.call hb; clear hb; (try clear F); have F := sh.facts; (try simp only [Hp.Facts, Hp.CellsAt, BatP.cellsAt_bt, BatP.cellsAt_bt, Nat.reduceAdd, Hp.c1, Hp.c2] at F)
    go_wp2_with (first
        | ((with_reducible first | refine Hp.wpl_box sh ?_ ?_ | refine Hp.wpa sh ?_ ?_ | refine Hp.atl_store ?_ ?_); exact rfl; (try (refine Hp.wsB sh ?_)); clear sh; (try clear F); go_simp; (first | intro b w1 sh | intro w1 sh); have F := sh.facts; (try simp only [Hp.Facts, Hp.CellsAt, BatP.cellsAt_bt, BatP.cellsAt_bt, Nat.reduceAdd, Hp.c1, Hp.c2] at F))
        | fail)
    refine Hp.region_soft (by kernel_rfl) sh (fun _ q => q) ?_; clear sh; (try clear F)
    (try simp only [Hp.p2, Hp.p3])
    (refine Hp.tks (i := 0) (oi := ⟨some 14, Op.fieldAddr 27 (Operand.tmp 1) 2, _, _, _, none⟩) (fun _ q => q) ?_)
    (refine Hp.tk (i := 1) (oi := ⟨some 15, Op.load 23 (Operand.tmp 14), _, _, _, none⟩) _ (fun _ q => q) (fun W hW => (Hp.bexec_prev 0 hW rfl rfl Tryd.underlying23 rfl (by rw [HPL.out]; kernel_rfl))) ?_)
    (refine Hp.cl (i := 2) (oi := ⟨some 16, Op.call { callee := Callee.value (Operand.func 42), args := #[Operand.tmp 15], argTypes := #[23] }, _, _, _, none⟩) _ _ _ (fun _ q => q) (fun W hW => by go_simp) (fun W hW => (KY.out W)) ?_)
    (refine Hp.tks (i := 3) (oi := ⟨some 17, Op.fieldAddr 27 (Operand.tmp 1) 0, _, _, _, none⟩) (fun _ q => q) ?_)
    (refine Hp.tk (i := 4) (oi := ⟨some 18, Op.load 25 (Operand.tmp 17), _, _, _, none⟩) _ (fun _ q => q) (fun W hW => by (have F := Hp.Sh.facts hW); (have hd := Hp.Sh.data hW); (try simp only [Hp.Facts, Hp.CellsAt, BatP.cellsAt_bt, BatP.cellsAt_bt, Nat.reduceAdd, Hp.c1, Hp.c2] at F); skip; go_simp; (try with_reducible rfl)) ?_)
    (refine Hp.cl (i := 5) (oi := ⟨some 19, Op.call { callee := Callee.value (Operand.func 43), args := #[Operand.tmp 18], argTypes := #[25] }, _, _, _, none⟩) _ _ _ (fun _ q => q) (fun W hW => by go_simp) (fun W hW => (KF.out W)) ?_)
    (refine Hp.tk (i := 6) (oi := ⟨some 20, Op.binOp BinOp.add 9 (Operand.tmp 16) (Operand.tmp 19) 9, _, _, _, none⟩) _ (fun _ q => q) (fun W hW => (by go_simp; rw [if_neg (by simp only [bstr_size]; omega), bstr_append])) ?_)
    (refine Hp.tks (i := 7) (oi := ⟨some 21, Op.fieldAddr 27 (Operand.tmp 1) 1, _, _, _, none⟩) (fun _ q => q) ?_)
    (refine Hp.tk (i := 8) (oi := ⟨some 22, Op.load 24 (Operand.tmp 21), _, _, _, none⟩) _ (fun _ q => q) (fun W hW => by (have F := Hp.Sh.facts hW); (have hd := Hp.Sh.data hW); (try simp only [Hp.Facts, Hp.CellsAt, BatP.cellsAt_bt, BatP.cellsAt_bt, Nat.reduceAdd, Hp.c1, Hp.c2] at F); skip; go_simp; (try with_reducible rfl)) ?_)
    (refine Hp.tks (i := 9) (oi := ⟨some 23, Op.call { callee := Callee.builtin Builtin.len, args := #[Operand.tmp 22], argTypes := #[24] }, _, _, _, none⟩) (fun _ q => q) ?_)
    (refine Hp.tks (i := 10) (oi := ⟨some 24, Op.convert 3 25 (Operand.tmp 23), _, _, _, none⟩) (fun _ q => q) ?_)
    (refine Hp.cl (i := 11) (oi := ⟨some 25, Op.call { callee := Callee.value (Operand.func 43), args := #[Operand.tmp 24], argTypes := #[25] }, _, _, _, none⟩) _ _ _ (fun _ q => q) (fun W hW => by go_simp) (fun W hW => (KN.out W)) ?_)
    (refine Hp.tk (i := 12) (oi := ⟨some 26, Op.binOp BinOp.add 9 (Operand.tmp 20) (Operand.tmp 25) 9, _, _, _, none⟩) _ (fun _ q => q) (fun W hW => (by go_simp; rw [if_neg (by simp only [bstr_size, List.length_append]; omega), bstr_append, HB3.out])) ?_)
    (refine Hp.tks (i := 13) (oi := ⟨some 4, Op.assign (Operand.tmp 26), _, _, _, none⟩) (fun _ q => q) ?_)
    refine Hp.soft_done (by kernel_rfl) (fun w1 sh => ?_) _; (try clear F); (try have F := Hp.Sh.facts sh); (try simp only [Hp.Facts, Hp.CellsAt, BatP.cellsAt_bt, BatP.cellsAt_bt, Nat.reduceAdd, Hp.c1, Hp.c2] at F)
    go_wp2_with (first
        | ((with_reducible first | refine Hp.wpl_box sh ?_ ?_ | refine Hp.wpa sh ?_ ?_ | refine Hp.atl_store ?_ ?_); exact rfl; (try (refine Hp.wsB sh ?_)); clear sh; (try clear F); go_simp; (first | intro b w1 sh | intro w1 sh); have F := sh.facts; (try simp only [Hp.Facts, Hp.CellsAt, BatP.cellsAt_bt, BatP.cellsAt_bt, Nat.reduceAdd, Hp.c1, Hp.c2] at F))
        | fail)
    go_loopw [4, 5] (fun v i wr => ∃ (j : Nat) (B : List UInt8), v = .string (bstr B) ∧ i = .int .i64 j ∧ j ≤ n ∧ Hid (B = B3 ++ BatP.evsL (l.take j)) ∧ Hp.Sh w wr [(b1, BatP.btA f (.slice s n c) prev, 27)] (fun W => Hp.RdV W s (l.flatMap EvP.evc))) (fun _ i _ => n - (intOf i).toNat)
    case atStart => exact ⟨0, B3, rfl, rfl, by omega, by show B3 = _; simp [BatP.evsL], sh⟩
    case round =>
      clear sh F
      obtain ⟨j, B, rfl, rfl, hj, HBE, sh⟩ := hrel
      have hBl : B.length ≤ 52 + 31 * j := by rw [HBE.out, List.length_append]; have := BatP.evsL_take HALL.out j; omega
      by_cases hlt : j < n
      · have hlI : (j : Int) < (n : Int) := by omega
        have hjL : j < l.length := by rw [← HN.out]; exact hlt
        obtain ⟨pp, hpp, -⟩ := sh.data (Hp.flat_pos EvP.evc_len (by decide) hjL)
        subst hpp
        have hb := HE.out _ (List.getElem_mem hjL)
        have ha9 := HALL.out _ (List.getElem_mem hjL)
        rcases hx : l[j] with ⟨q, t, p, k, a, b⟩
        rw [hx] at hb ha9
        obtain ⟨hq, ht, hp, hk, ha, hb⟩ := hb
        dsimp only at hq ht hp hk ha hb ha9
        have HXE := Lib.hid hx
        have KP := Lib.hid (fun W => erput q t p k a b W hq ht hp hk ha hb)
        rw [EvP.putV_yes ha9.1] at KP
        have hpl := EvP.put_len ha9.1 ha9.2
        obtain ⟨T, hT⟩ : ∃ T, EvP.putE (q, t, p, k, a, b) = T := ⟨_, rfl⟩
        rw [hT] at KP hpl
        have HT := Lib.hid hT
        have KT := Lib.hid (fun W => wireRefText_any (bstr T) W (by rw [bstr_size]; omega))
        rw [bstr_data, BatP.textV_of (by omega)] at KT
        have hpt : (BatP.textL T).length ≤ 31 := by have := WireP.putL_le 0 T.length (by omega); unfold BatP.textL; rw [List.length_append]; omega
        have HC := Lib.hid (fun W (q : Hp.RdV W (some pp) (l.flatMap EvP.evc)) => EvP.ev_cells q hjL HXE.out)
        obtain ⟨X9, hX9⟩ : ∃ X, BatP.textL T = X := ⟨_, rfl⟩
        rw [hX9] at KT hpt
        obtain ⟨B9, hB9⟩ : ∃ Z9, B ++ X9 = Z9 := ⟨_, rfl⟩
        have n91 : bstr B ++ bstr X9 = bstr B9 := by rw [bstr_append, hB9]
        have n92 : ¬ 9223372036854775807 < (bstr B).size + (bstr X9).size := by rw [bstr_size, bstr_size]; omega
        have HB9 := Lib.hid (show B9 = B ++ BatP.textL T by rw [hX9, hB9])
        clear hq ht hp hk ha hb ha9 hx hT hpl hX9 hB9
        obtain ⟨q0, q1, q2, q3, q4, q5⟩ := HC.out _ sh.data
        have F := sh.facts; (try simp only [Hp.Facts, Hp.CellsAt, BatP.cellsAt_bt, BatP.cellsAt_bt, Nat.reduceAdd, Hp.c1, Hp.c2] at F)
        go_wp2_with (first
            | ((with_reducible first | refine Hp.wpl_box sh ?_ ?_ | refine Hp.wpa sh ?_ ?_ | refine Hp.atl_store ?_ ?_); exact rfl; (try (refine Hp.wsB sh ?_)); clear sh; (try clear F); go_simp; (first | intro b w1 sh | intro w1 sh); have F := sh.facts; (try simp only [Hp.Facts, Hp.CellsAt, BatP.cellsAt_bt, BatP.cellsAt_bt, Nat.reduceAdd, Hp.c1, Hp.c2] at F))
            | fail)
        go_fit (KP.out _)
        rintro e w1 ⟨rfl, hb⟩
        replace sh := sh.call hb; clear hb; (try clear F); have F := sh.facts; (try simp only [Hp.Facts, Hp.CellsAt, BatP.cellsAt_bt, BatP.cellsAt_bt, Nat.reduceAdd, Hp.c1, Hp.c2] at F)
        clear q0 q1 q2 q3 q4 q5
        go_wp2_with (first
            | ((with_reducible first | refine Hp.wpl_box sh ?_ ?_ | refine Hp.wpa sh ?_ ?_ | refine Hp.atl_store ?_ ?_); exact rfl; (try (refine Hp.wsB sh ?_)); clear sh; (try clear F); go_simp; (first | intro b w1 sh | intro w1 sh); have F := sh.facts; (try simp only [Hp.Facts, Hp.CellsAt, BatP.cellsAt_bt, BatP.cellsAt_bt, Nat.reduceAdd, Hp.c1, Hp.c2] at F))
            | fail)
        go_fit (KT.out _)
        rintro e w1 ⟨rfl, hb⟩
        replace sh := sh.call hb; clear hb; (try clear F); have F := sh.facts; (try simp only [Hp.Facts, Hp.CellsAt, BatP.cellsAt_bt, BatP.cellsAt_bt, Nat.reduceAdd, Hp.c1, Hp.c2] at F)
        go_wp2_with (first
            | ((with_reducible first | refine Hp.wpl_box sh ?_ ?_ | refine Hp.wpa sh ?_ ?_ | refine Hp.atl_store ?_ ?_); exact rfl; (try (refine Hp.wsB sh ?_)); clear sh; (try clear F); go_simp; (first | intro b w1 sh | intro w1 sh); have F := sh.facts; (try simp only [Hp.Facts, Hp.CellsAt, BatP.cellsAt_bt, BatP.cellsAt_bt, Nat.reduceAdd, Hp.c1, Hp.c2] at F))
            | fail)
        go_roundw
        case rel => exact ⟨j + 1, B9, rfl, by go_num, by omega, by show B9 = _; rw [HB9.out, HBE.out, BatP.evsL_next hjL, HXE.out, HT.out, List.append_assoc], sh⟩
        case measure => simp [intOf]; omega
      · obtain rfl : j = n := by omega
        have hbody : BatP.bodyL (f, l, prev) = B := by
          rw [HBE.out, ← HB.out, HN.out, List.take_length]
          unfold BatP.bodyL
          dsimp only
          simp only [List.append_assoc]
        have hB8 : B.length ≤ 8000 := by rw [← hbody]; exact HBL.out
        obtain ⟨NB, hNB⟩ : ∃ k, B.length = k := ⟨_, rfl⟩
        obtain ⟨X1, hX1⟩ : ∃ X, (66 : UInt8) :: WireP.fixedL NB 4 = X := ⟨_, rfl⟩
        have hX1l : X1.length = 5 := by rw [← hX1, List.length_cons, WireP.fixedL_length]
        obtain ⟨O, hO⟩ : ∃ O, X1 ++ B = O := ⟨_, rfl⟩
        have hOl : O.length ≤ 8005 := by rw [← hO, List.length_append, hX1l]; omega
        obtain ⟨cr, hcr⟩ : ∃ k, (CrcP.ofL O).toNat = k := ⟨_, rfl⟩
        have hcr2 : cr < 4294967296 := by rw [← hcr]; exact (CrcP.ofL O).isLt
        obtain ⟨X2, hX2⟩ : ∃ X, WireP.fixedL cr 4 = X := ⟨_, rfl⟩
        have hX2l : X2.length = 4 := by rw [← hX2, WireP.fixedL_length]
        have n0 : (bstr B).size = NB := by rw [bstr_size, hNB]
        have KX := Lib.hid (fun W => wireRefFixed_yes NB 4 W (by decide) (by decide))
        rw [show ((4 : Nat) : Int) = 4 from rfl] at KX
        obtain ⟨X0, hX0⟩ : ∃ X, WireP.fixedL NB 4 = X := ⟨_, rfl⟩
        rw [hX0] at KX hX1
        have hX0l : X0.length = 4 := by rw [← hX0, WireP.fixedL_length]
        have KC := Lib.hid (fun W => brcrc' (bstr O) W (by rw [bstr_size]; omega))
        rw [bstr_data, hcr] at KC
        have KD := Lib.hid (fun W => wireRefFixed_yes cr 4 W (by decide) (by decide))
        rw [show ((4 : Nat) : Int) = 4 from rfl, hX2] at KD
        have z2 : IntKind.u64.wrap (NB : Int) = (NB : Int) := by simp [IntKind.wrap, IntKind.bits, IntKind.signed]; omega
        have z3 : IntKind.u64.wrap (cr : Int) = (cr : Int) := by simp [IntKind.wrap, IntKind.bits, IntKind.signed]; omega
        have HE9 := Lib.hid (show BatP.outL (f, l, prev) = O ++ X2 by unfold BatP.outL BatP.sumL; rw [hbody, show BatP.frameL B = O by rw [← hO, ← hX1, ← hX0, ← hNB]; rfl, hcr, hX2])
        have m1 : ({ data := #[66] } : ByteArray) ++ bstr X0 = bstr X1 := by rw [show ({ data := #[66] } : ByteArray) = bstr [66] from rfl, bstr_append, ← hX1]; rfl
        have m2 : bstr X1 ++ bstr B = bstr O := by rw [bstr_append, hO]
        have m3 : bstr O ++ bstr X2 = bstr (O ++ X2) := by rw [bstr_append]
        have s1 : ¬ 9223372036854775807 < ByteArray.size { data := #[66] } + (bstr X0).size := by rw [bstr_size]; show ¬ _ < 1 + _; omega
        have s1' : ¬ 9223372036854775807 < 1 + (bstr X0).size := by rw [bstr_size]; omega
        have s2 : ¬ 9223372036854775807 < (bstr X1).size + NB := by rw [bstr_size]; omega
        have s3 : ¬ 9223372036854775807 < (bstr O).size + (bstr X2).size := by rw [bstr_size, bstr_size]; omega
        have hlI : ¬ (j : Int) < (j : Int) := by omega
        clear hO hcr hbody HBE HB hNB hX1 hX2 hX0
        have F := sh.facts; (try simp only [Hp.Facts, Hp.CellsAt, BatP.cellsAt_bt, BatP.cellsAt_bt, Nat.reduceAdd, Hp.c1, Hp.c2] at F)
        go_wp2_with (first
            | ((with_reducible first | refine Hp.wpl_box sh ?_ ?_ | refine Hp.wpa sh ?_ ?_ | refine Hp.atl_store ?_ ?_); exact rfl; (try (refine Hp.wsB sh ?_)); clear sh; (try clear F); go_simp; (first | intro b w1 sh | intro w1 sh); have F := sh.facts; (try simp only [Hp.Facts, Hp.CellsAt, BatP.cellsAt_bt, BatP.cellsAt_bt, Nat.reduceAdd, Hp.c1, Hp.c2] at F))
            | fail)
        go_fit (KX.out _)
        rintro e w1 ⟨rfl, hb⟩
        replace sh := sh.call hb; clear hb; (try clear F); have F := sh.facts; (try simp only [Hp.Facts, Hp.CellsAt, BatP.cellsAt_bt, BatP.cellsAt_bt, Nat.reduceAdd, Hp.c1, Hp.c2] at F)
        go_wp2_with (first
            | ((with_reducible first | refine Hp.wpl_box sh ?_ ?_ | refine Hp.wpa sh ?_ ?_ | refine Hp.atl_store ?_ ?_); exact rfl; (try (refine Hp.wsB sh ?_)); clear sh; (try clear F); go_simp; (first | intro b w1 sh | intro w1 sh); have F := sh.facts; (try simp only [Hp.Facts, Hp.CellsAt, BatP.cellsAt_bt, BatP.cellsAt_bt, Nat.reduceAdd, Hp.c1, Hp.c2] at F))
            | fail)
        go_fit (KC.out _)
        rintro e w1 ⟨rfl, hb⟩
        replace sh := sh.call hb; clear hb; (try clear F); have F := sh.facts; (try simp only [Hp.Facts, Hp.CellsAt, BatP.cellsAt_bt, BatP.cellsAt_bt, Nat.reduceAdd, Hp.c1, Hp.c2] at F)
        go_wp2_with (first
            | ((with_reducible first | refine Hp.wpl_box sh ?_ ?_ | refine Hp.wpa sh ?_ ?_ | refine Hp.atl_store ?_ ?_); exact rfl; (try (refine Hp.wsB sh ?_)); clear sh; (try clear F); go_simp; (first | intro b w1 sh | intro w1 sh); have F := sh.facts; (try simp only [Hp.Facts, Hp.CellsAt, BatP.cellsAt_bt, BatP.cellsAt_bt, Nat.reduceAdd, Hp.c1, Hp.c2] at F))
            | fail)
        go_fit (KD.out _)
        rintro e w1 ⟨rfl, hb⟩
        replace sh := sh.call hb; clear hb; (try clear F); have F := sh.facts; (try simp only [Hp.Facts, Hp.CellsAt, BatP.cellsAt_bt, BatP.cellsAt_bt, Nat.reduceAdd, Hp.c1, Hp.c2] at F)
        go_wp2_with (first
            | ((with_reducible first | refine Hp.wpl_box sh ?_ ?_ | refine Hp.wpa sh ?_ ?_ | refine Hp.atl_store ?_ ?_); exact rfl; (try (refine Hp.wsB sh ?_)); clear sh; (try clear F); go_simp; (first | intro b w1 sh | intro w1 sh); have F := sh.facts; (try simp only [Hp.Facts, Hp.CellsAt, BatP.cellsAt_bt, BatP.cellsAt_bt, Nat.reduceAdd, Hp.c1, Hp.c2] at F))
            | fail)
        go_ret2
        exact ⟨by rw [HX.out, HE9.out]; rfl, sh.below⟩

end Go.Proofs.YtfcffglgkblidaaDoor
