
/-
  The walk of the program's words.
-/
import Derived.Test.YtfcffglgkblidaaDoorDigAr
namespace Go.Proofs.YtfcffglgkblidaaDoor
open Go.RowKit
set_option linter.unusedVariables false
set_option linter.unusedSimpArgs false

namespace DigP
/-- The words so far, and nothing behind. -/
def padW (l : List Wd) : List Wd := l ++ List.replicate (64 - l.length) 0
theorem padW_length {l : List Wd} (h : l.length ≤ 64) : (padW l).length = 64 := by simp [padW]; omega
theorem padW_get {l : List Wd} {k : Nat} (h : k < l.length) : (padW l).getD k 0 = l.getD k 0 := by
  simp [padW, List.getD_eq_getElem?_getD, List.getElem?_append_left h]
theorem padW_set {l : List Wd} (x : Wd) (h : l.length < 64) : (padW l).set l.length x = padW (l ++ [x]) := by
  unfold padW
  rw [List.set_append_right _ _ (Nat.le_refl _), Nat.sub_self, show 64 - l.length = (63 - l.length) + 1 by omega, List.replicate_succ, List.set_cons_zero, List.length_append, List.length_singleton, show 64 - (l.length + 1) = 63 - l.length by omega, List.append_assoc]
  rfl
theorem padW_last {l : List Wd} (x : Wd) : (padW (l ++ [x])).getD l.length 0 = x := by rw [padW_get (by simp)]; simp [List.getD_eq_getElem?_getD]
theorem padW_turn {l : List Wd} (x y : Wd) (h : l.length < 64) : (padW (l ++ [x])).set l.length y = padW (l ++ [y]) := by
  unfold padW
  rw [List.append_assoc, List.set_append_right _ _ (Nat.le_refl _), Nat.sub_self, List.append_assoc]
  simp
theorem padW_zero {l : List Wd} (h : l.length < 64) : padW (l ++ [0]) = padW l := by
  unfold padW
  rw [List.append_assoc, List.length_append, List.length_singleton, show 64 - l.length = (64 - (l.length + 1)) + 1 by omega, List.replicate_succ]; rfl
theorem padW_full {l : List Wd} (h : l.length = 64) : padW l = l := by simp [padW, h]
def zero64 : List Wd := padW []
/-- A word out of its first bytes. -/
def accW (l : List UInt8) (j : Nat) : Wd := (l.take j).foldl (fun a c => (a <<< 8) ||| BitVec.ofNat 32 c.toNat) 0
theorem accW_next (l : List UInt8) (j : Nat) (h : j < l.length) : accW l (j + 1) = (accW l j <<< 8) ||| BitVec.ofNat 32 (l.getD j 0).toNat := by
  unfold accW
  rw [List.take_succ_eq_append_getElem h, List.foldl_append, List.getD_eq_getElem?_getD, List.getElem?_eq_getElem h]; rfl
theorem shl_or (a : Wd) (c : UInt8) : ((a <<< 8) ||| BitVec.ofNat 32 c.toNat).toNat = a.toNat * 256 % 4294967296 + c.toNat := by
  have hc := c.toNat_lt
  rw [BitVec.toNat_or, BitVec.toNat_shiftLeft, BitVec.toNat_ofNat, Nat.mod_eq_of_lt (show c.toNat < 2 ^ 32 by omega), Nat.shiftLeft_eq]
  have e : a.toNat * 2 ^ 8 % 2 ^ 32 = 2 ^ 8 * (a.toNat % 2 ^ 24) := by omega
  rw [e, ← Nat.two_pow_add_eq_or_of_lt (i := 8) (by omega)]
theorem accW_4 (a b c d : UInt8) : accW [a, b, c, d] 4 = word a b c d := by
  have ha := a.toNat_lt
  have hb := b.toNat_lt
  have hc := c.toNat_lt
  have hd := d.toNat_lt
  apply BitVec.eq_of_toNat_eq
  show (((((((0 : Wd) <<< 8) ||| BitVec.ofNat 32 a.toNat) <<< 8) ||| BitVec.ofNat 32 b.toNat) <<< 8 ||| BitVec.ofNat 32 c.toNat) <<< 8 ||| BitVec.ofNat 32 d.toNat).toNat = _
  rw [shl_or, shl_or, shl_or, shl_or]
  unfold word
  rw [BitVec.toNat_ofNat]
  simp only [BitVec.toNat_zero, Nat.zero_mul, Nat.zero_mod, Nat.zero_add, BitVec.ofNat_eq_ofNat]
  omega
theorem borc (a : Wd) (c : UInt8) : bits .or .u32 ((a <<< 8).toNat : Int) (c.toNat : Int) = (((a <<< 8) ||| BitVec.ofNat 32 c.toNat).toNat : Int) := by
  have hc := c.toNat_lt
  have := bor (a <<< 8) (BitVec.ofNat 32 c.toNat)
  rw [BitVec.toNat_ofNat, Nat.mod_eq_of_lt (show c.toNat < 2 ^ 32 by omega)] at this
  exact this
theorem bshl256 (x : Wd) : IntKind.u32.wrap ((x.toNat : Int) * 256) = ((x <<< 8).toNat : Int) := bshl x 8
theorem bshl256' (x : Wd) : (x.toNat : Int) * 256 % 4294967296 = ((x <<< 8).toNat : Int) := by
  have := bshl' x 8
  exact this
theorem turns_small0 (y : Wd) : turns y [7, 18] ^^^ (y >>> 3) = small0 y := by
  show (0 ^^^ turn y 7 ^^^ turn y 18) ^^^ _ = _
  rw [show (0 : Wd) ^^^ turn y 7 = turn y 7 from BitVec.zero_xor]; rfl
theorem turns_small1 (y : Wd) : turns y [17, 19] ^^^ (y >>> 10) = small1 y := by
  show (0 ^^^ turn y 17 ^^^ turn y 19) ^^^ _ = _
  rw [show (0 : Wd) ^^^ turn y 17 = turn y 17 from BitVec.zero_xor]; rfl
theorem first_take (l : List UInt8) {k : Nat} (h : k < 16) : (first l).take k ++ [word (l.getD (4 * k) 0) (l.getD (4 * k + 1) 0) (l.getD (4 * k + 2) 0) (l.getD (4 * k + 3) 0)] = (first l).take (k + 1) := by
  rw [List.take_succ_eq_append_getElem (by rw [first_length]; exact h)]
  simp [first]
theorem slice4 (l : List UInt8) {k : Nat} (h : 4 * k + 4 ≤ l.length) : (bstr l).extract (4 * k) (4 * k + 4) = bstr [l.getD (4 * k) 0, l.getD (4 * k + 1) 0, l.getD (4 * k + 2) 0, l.getD (4 * k + 3) 0] := by
  rw [bstr_extract, bstr_data]
  congr 1
  apply List.ext_getElem
  · simp; omega
  · intro i h1 h2
    simp only [List.length_cons, List.length_nil] at h2
    simp only [List.getElem_drop, List.getElem_take]
    have hi : i = 0 ∨ i = 1 ∨ i = 2 ∨ i = 3 := by omega
    rcases hi with rfl | rfl | rfl | rfl <;> simp [List.getD_eq_getElem?_getD, show 4 * k < l.length by omega, show 4 * k + 1 < l.length by omega, show 4 * k + 2 < l.length by omega, show 4 * k + 3 < l.length by omega]
end DigP

theorem Tryd.z_a64 (W : World) : (zeroValue 104).run Tryd.prog W = .ok (.agg (DigP.wA DigP.zero64)) W := by kernel_rfl
theorem Tryd.i_i64 : (Tryd.prog.info? 3).map (fun i => (i.zero, i.size, i.bytes)) = some (some (.int .i64 0), 1, 8) := by kernel_rfl
set_option maxHeartbeats 8000000 in
set_option maxRecDepth 100000 in
theorem dwords (l : List UInt8) (hl : l.length = 64) (w : World) : Calls Tryd.prog 77 #[.string (bstr l)] w fun e w' => e = .returned (.agg (DigP.wA (DigP.words l))) ∧ Below w.heap.size w w' := by
  have sh : Hp.Sh w w [] (fun _ => True) := Hp.Sh.start (fun _ _ => trivial)
  have hs : (bstr l).size = 64 := by rw [bstr_size]; exact hl
  go_enter Tryd.func77, Tryd.ntmps77
  have F := sh.fx
  have tok_br : True := trivial
  have tok_bw : True := trivial
  go_wp2_with (first
      | ((with_reducible first | refine Hp.wpl_box sh ?_ ?_ | refine Hp.wpa sh ?_ ?_ | refine Hp.atl_store ?_ ?_); exact rfl; (try (refine Hp.wsB sh ?_)); clear sh; (try clear F); go_simp; (first | (have tok := tok_br; clear tok tok_br; intro br w1 sh) | (have tok := tok_bw; clear tok tok_bw; intro bw w1 sh) | intro b w1 sh | intro w1 sh); have F := sh.fx)
      | fail)
  go_loopw [10] (fun i wr => ∃ (k : Nat), i = .int .i64 k ∧ k ≤ 16 ∧ Hp.Sh w wr [(bw, DigP.wA (DigP.padW ((DigP.first l).take k)), 104), (br, DigP.wA DigP.zero64, 104)] (fun _ => True)) (fun i _ => 16 - (intOf i).toNat)
  case atStart => exact ⟨0, rfl, by omega, sh⟩
  case round =>
    clear sh F
    obtain ⟨k, rfl, hk, sh⟩ := hrel
    have F := sh.fx
    by_cases hlt : k < 16
    · have hlI : (k : Int) < 16 := by omega
      have hX := DigP.slice4 l (k := k) (by omega)
      have HT := Lib.hid (DigP.first_take l hlt)
      have HL := Lib.hid (show ((DigP.first l).take k).length = k by rw [List.length_take, DigP.first_length]; omega)
      have HZ := Lib.hid (DigP.padW_zero (l := (DigP.first l).take k) (by rw [HL.out]; omega))
      generalize l.getD (4 * k) 0 = c0 at hX HT
      generalize l.getD (4 * k + 1) 0 = c1 at hX HT
      generalize l.getD (4 * k + 2) 0 = c2 at hX HT
      generalize l.getD (4 * k + 3) 0 = c3 at hX HT
      rw [← DigP.accW_4] at HT
      generalize (DigP.first l).take k = xs at HT HL HZ sh
      have g0 : IntKind.i64.wrap (4 * (k : Int)) = 4 * (k : Int) := IntWalk.i64_in _ (by omega)
      have g4 : IntKind.i64.wrap (4 * (k : Int) + 4) = 4 * (k : Int) + 4 := IntWalk.i64_in _ (by omega)
      have e0 : (4 * (k : Int)).toNat = 4 * k := by omega
      have e4 : (4 * (k : Int) + 4).toNat = 4 * k + 4 := by omega
      have p0 : (0 : Int) ≤ 4 * (k : Int) := by omega
      have p4 : 4 * (k : Int) ≤ 4 * (k : Int) + 4 := by omega
      have q4 : 4 * k + 4 ≤ 64 := by omega
      have q5 : 4 * k ≤ 4 * k + 4 := by omega
      have r4 : 4 * (k : Int) + 4 ≤ 64 := by omega
      rw [← HZ.out] at sh
      have F := sh.fx
      go_wp2_with (first
          | ((with_reducible refine Hp.wpl_bytes Tryd.underlying9 Tryd.underlying51 Tryd.underlying5 sh [c0, c1, c2, c3] ?_ ?_ ?_); rfl; rfl; clear sh F; intro bb cap w1 sh hcap; (have F := sh.fx); go_simp)
          | ((with_reducible first | refine Hp.wpl_box sh ?_ ?_ | refine Hp.wpa sh ?_ ?_ | refine Hp.atl_store ?_ ?_); exact rfl; (try (refine Hp.wsB sh ?_)); clear sh; (try clear F); go_simp; (first | intro b w1 sh | intro w1 sh); have F := sh.fx)
          | fail)
      go_loopw [22] (fun i wr => ∃ (j : Nat), i = .int .i64 j ∧ j ≤ 4 ∧ Hp.Sh w wr [(bw, DigP.wA (DigP.padW (xs ++ [DigP.accW [c0, c1, c2, c3] j])), 104), (br, DigP.wA DigP.zero64, 104)] (fun W => Hp.RdV W (some ⟨bb, 0, none⟩) (bcells [c0, c1, c2, c3]))) (fun i _ => 4 - (intOf i).toNat)
      case atStart => exact ⟨0, rfl, by omega, sh.imp fun _ h => h.1⟩
      case round =>
        clear sh F
        obtain ⟨j, rfl, hj, sh⟩ := hrel
        by_cases hjt : j < 4
        · have hjI : (j : Int) < 4 := by omega
          have HN := Lib.hid (DigP.accW_next [c0, c1, c2, c3] j hjt)
          have HN' := Lib.hid (rfl : DigP.accW [c0, c1, c2, c3] (j + 1) = DigP.accW [c0, c1, c2, c3] (j + 1))
          generalize hy : DigP.accW [c0, c1, c2, c3] (j + 1) = y' at HN
          have HY := Lib.hid hy
          clear hy HN'
          generalize DigP.accW [c0, c1, c2, c3] j = y at HN sh
          have hb := sh.data.cell j (v := .int .u8 ((([c0, c1, c2, c3] : List UInt8).getD j 0).toNat : Int)) (DigP.bc_get hjt)
          rw [Hp.add_head] at hb
          generalize ([c0, c1, c2, c3] : List UInt8).getD j 0 = c at hb HN
          have hkl : k < 64 := by omega
          have hkI : (k : Int) < 64 := by omega
          have hw := Hp.Sh.at sh (i := 0) rfl (j := k) (DigP.wA_get (by rw [DigP.padW_length (by rw [List.length_append, HL.out]; simp; omega)]; omega))
          have e5 : (DigP.padW (xs ++ [y])).getD k 0 = y := by rw [← HL.out]; exact DigP.padW_last y
          rw [e5] at hw
          clear e5
          have f1 := DigP.bshl256 y
          have f2 := DigP.bshl256' y
          have f3 := DigP.borc y c
          have f4 := DigP.w8 c
          generalize y <<< 8 = z at f1 f2 f3 HN
          generalize z ||| BitVec.ofNat 32 c.toNat = r at f3 HN
          have hsz : k + 1 ≤ (DigP.wA (DigP.padW (xs ++ [y]))).size := by rw [DigP.wA_size, DigP.padW_length (by rw [List.length_append, HL.out]; simp; omega)]; omega
          have HS := Lib.hid (show (DigP.wA (DigP.padW (xs ++ [y]))).setIfInBounds k (.int .u32 (r.toNat : Int)) = DigP.wA (DigP.padW (xs ++ [r])) by rw [DigP.wA_set, ← HL.out, DigP.padW_turn _ _ (by rw [HL.out]; omega)])
          have F := sh.fx
          go_wp2_with (first
              | ((with_reducible refine Hp.atl_store ?_ ?_); exact rfl; (refine Hp.wp_store 0 sh rfl rfl rfl rfl (by kernel_rfl) (hsz) rfl ?_); clear sh; (try clear F); go_simp; intro w1 sh; rw [HS.out] at sh; have F := sh.fx)
              | ((with_reducible first | refine Hp.wpl_box sh ?_ ?_ | refine Hp.wpa sh ?_ ?_ | refine Hp.atl_store ?_ ?_); exact rfl; (try (refine Hp.wsB sh ?_)); clear sh; (try clear F); go_simp; (first | intro b w1 sh | intro w1 sh); have F := sh.fx)
              | fail)
          go_roundw
          case rel => exact ⟨j + 1, by go_num, by omega, by rw [HY.out, HN.out]; exact sh⟩
          case measure => simp [intOf]; omega
        · obtain rfl : j = 4 := by omega
          rw [HT.out] at sh
          have F := sh.fx
          go_wp2_with (first
              | ((with_reducible first | refine Hp.wpl_box sh ?_ ?_ | refine Hp.wpa sh ?_ ?_ | refine Hp.atl_store ?_ ?_); exact rfl; (try (refine Hp.wsB sh ?_)); clear sh; (try clear F); go_simp; (first | intro b w1 sh | intro w1 sh); have F := sh.fx)
              | fail)
          go_roundw
          case rel => exact ⟨k + 1, by go_num, by omega, sh.imp fun _ _ => trivial⟩
          case measure => simp [intOf]; omega
    · obtain rfl : k = 16 := by omega
      rw [List.take_of_length_le (by rw [DigP.first_length]; omega)] at sh
      have F := sh.fx
      go_wp2_with (first
          | ((with_reducible first | refine Hp.wpl_box sh ?_ ?_ | refine Hp.wpa sh ?_ ?_ | refine Hp.atl_store ?_ ?_); exact rfl; (try (refine Hp.wsB sh ?_)); clear sh; (try clear F); go_simp; (first | intro b w1 sh | intro w1 sh); have F := sh.fx)
          | fail)
      go_loopw [7] (fun i wr => ∃ (k : Nat), i = .int .i64 (16 + (k : Int)) ∧ k ≤ 48 ∧ Hp.Sh w wr [(bw, DigP.wA (DigP.padW (DigP.wordsN l k)), 104), (br, DigP.wA DigP.zero64, 104)] (fun _ => True)) (fun i _ => 64 - (intOf i).toNat)
      case atStart => exact ⟨0, rfl, by omega, sh⟩
      case round =>
        clear sh F
        obtain ⟨k, rfl, hk, sh⟩ := hrel
        by_cases hlt : k < 48
        · have hlI : 16 + (k : Int) < 64 := by omega
          have HL := Lib.hid (DigP.wordsN_length l k)
          have HN := Lib.hid (show DigP.wordsN l (k + 1) = DigP.wordsN l k ++ [DigP.next (DigP.wordsN l k) (16 + k)] from rfl)
          unfold DigP.next at HN
          rw [show 16 + k - 16 = k by omega, show 16 + k - 15 = k + 1 by omega, show 16 + k - 7 = k + 9 by omega, show 16 + k - 2 = k + 14 by omega] at HN
          generalize hy : DigP.wordsN l (k + 1) = xs' at HN
          have HY := Lib.hid hy
          clear hy
          generalize DigP.wordsN l k = xs at HN HL sh
          have HC := Lib.hid (fun W j (hj : j < 16 + k) (h : Hp.Sh w W [(bw, DigP.wA (DigP.padW xs), 104), (br, DigP.wA DigP.zero64, 104)] (fun _ => True)) => (by
            have hw := Hp.Sh.at h (i := 0) rfl (j := j) (DigP.wA_get (by rw [DigP.padW_length (by rw [HL.out]; omega)]; omega))
            rwa [DigP.padW_get (by rw [HL.out]; exact hj)] at hw : W.cell? ⟨bw, j, none⟩ = some (.int .u32 ((xs.getD j 0).toNat : Int))))
          have C0 := Lib.hid (fun W h => HC.out W k (by omega) h)
          have C1 := Lib.hid (fun W h => HC.out W (k + 1) (by omega) h)
          have C9 := Lib.hid (fun W h => HC.out W (k + 9) (by omega) h)
          have C14 := Lib.hid (fun W h => HC.out W (k + 14) (by omega) h)
          clear HC
          generalize xs.getD k 0 = y0 at C0 HN
          generalize xs.getD (k + 1) 0 = y1 at C1 HN
          generalize xs.getD (k + 9) 0 = y9 at C9 HN
          generalize xs.getD (k + 14) 0 = y14 at C14 HN
          have K1 := Lib.hid (fun W p h => dturns y1 [7, 18] p 2 2 rfl (by omega) (by decide) W h)
          have K2 := Lib.hid (fun W p h => dturns y14 [17, 19] p 2 2 rfl (by omega) (by decide) W h)
          have X1 : bits .xor .u32 ((DigP.turns y1 [7, 18]).toNat : Int) ((y1 >>> 3).toNat : Int) = ((DigP.small0 y1).toNat : Int) := by rw [DigP.bxor, DigP.turns_small0]
          have X2 : bits .xor .u32 ((DigP.turns y14 [17, 19]).toNat : Int) ((y14 >>> 10).toNat : Int) = ((DigP.small1 y14).toNat : Int) := by rw [DigP.bxor, DigP.turns_small1]
          have s3 := DigP.bshr8 y1
          have s10 := DigP.bshr1024 y14
          generalize DigP.small0 y1 = z0 at X1 HN
          generalize DigP.small1 y14 = z1 at X2 HN
          generalize y1 >>> 3 = v3 at X1 s3
          generalize y14 >>> 10 = v10 at X2 s10
          generalize DigP.turns y1 [7, 18] = a1 at X1 K1
          generalize DigP.turns y14 [17, 19] = a2 at X2 K2
          have A1 := DigP.badd y0 z0
          have A2 := DigP.badd (y0 + z0) y9
          have A3 := DigP.badd (y0 + z0 + y9) z1
          have A1' := DigP.badd' y0 z0
          have A2' := DigP.badd' (y0 + z0) y9
          have A3' := DigP.badd' (y0 + z0 + y9) z1
          generalize y0 + z0 = s1 at A1 A2 A3 A1' A2' A3' HN
          generalize s1 + y9 = s2 at A2 A3 A2' A3' HN
          generalize s2 + z1 = r at A3 A3' HN
          have HS := Lib.hid (show (DigP.wA (DigP.padW xs)).setIfInBounds (16 + k) (.int .u32 (r.toNat : Int)) = DigP.wA (DigP.padW xs') by rw [DigP.wA_set, ← HL.out, DigP.padW_set _ (by rw [HL.out]; omega), HN.out])
          have hsz : 16 + k + 1 ≤ (DigP.wA (DigP.padW xs)).size := by rw [DigP.wA_size, DigP.padW_length (by rw [HL.out]; omega)]; omega
          have j1 : IntKind.i64.wrap (16 + (k : Int) - 15) = (k : Int) + 1 := by rw [IntWalk.i64_in _ (by omega)]; omega
          have j2 : IntKind.i64.wrap (16 + (k : Int) - 2) = (k : Int) + 14 := by rw [IntWalk.i64_in _ (by omega)]; omega
          have j3 : IntKind.i64.wrap (16 + (k : Int) - 16) = (k : Int) := by rw [IntWalk.i64_in _ (by omega)]; omega
          have j4 : IntKind.i64.wrap (16 + (k : Int) - 7) = (k : Int) + 9 := by rw [IntWalk.i64_in _ (by omega)]; omega
          have j5 : IntKind.i64.wrap (k : Int) = k := IntWalk.i64_in _ (by omega)
          have j6 : IntKind.i64.wrap ((k : Int) + 1) = (k : Int) + 1 := IntWalk.i64_in _ (by omega)
          have j7 : IntKind.i64.wrap ((k : Int) + 9) = (k : Int) + 9 := IntWalk.i64_in _ (by omega)
          have j8 : IntKind.i64.wrap ((k : Int) + 14) = (k : Int) + 14 := IntWalk.i64_in _ (by omega)
          have u1 : 16 + (k : Int) - 15 = (k : Int) + 1 := by omega
          have u2 : 16 + (k : Int) - 2 = (k : Int) + 14 := by omega
          have u3' : 16 + (k : Int) - 16 = (k : Int) := by omega
          have u4 : 16 + (k : Int) - 7 = (k : Int) + 9 := by omega
          have n0 : (16 + (k : Int)).toNat = 16 + k := by omega
          have n1 : ((k : Int) + 1).toNat = k + 1 := by omega
          have n2 : ((k : Int) + 14).toNat = k + 14 := by omega
          have n4 : ((k : Int) + 9).toNat = k + 9 := by omega
          have b1 : (k : Int) + 1 < 64 := by omega
          have b2 : (k : Int) + 14 < 64 := by omega
          have b3 : (k : Int) < 64 := by omega
          have b4 : (k : Int) + 9 < 64 := by omega
          have p0 : (0 : Int) ≤ 16 + (k : Int) := by omega
          have p1 : (0 : Int) ≤ (k : Int) + 1 := by omega
          have p2 : (0 : Int) ≤ (k : Int) + 14 := by omega
          have p4 : (0 : Int) ≤ (k : Int) + 9 := by omega
          have F := sh.fx
          go_wp2_with (first
              | ((with_reducible first | refine Hp.wpl_box sh ?_ ?_ | refine Hp.wpa sh ?_ ?_ | refine Hp.atl_store ?_ ?_); exact rfl; (try (refine Hp.wsB sh ?_)); clear sh; (try clear F); go_simp; (first | intro b w1 sh | intro w1 sh); have F := sh.fx)
              | fail)
          refine Hp.region_soft (by kernel_rfl) sh (fun _ q => q) ?_; clear sh; (try clear F)
          (try simp only [Hp.p2, Hp.p3])
          (refine Hp.tks (i := 0) (oi := ⟨some 41, Op.move (Operand.tmp 7), _, _, _, none⟩) (fun _ q => q) ?_)
          (refine Hp.tks (i := 1) (oi := ⟨some 42, Op.binOp BinOp.sub 3 (Operand.tmp 41) (Operand.const (Value.int IntKind.i64 15)) 3, _, _, _, none⟩) (fun _ q => q) ?_)
          (refine Hp.tks (i := 2) (oi := ⟨some 43, Op.indexAddr 104 (Operand.tmp 3) (Operand.tmp 42), _, _, _, none⟩) (fun _ q => q) ?_)
          (refine Hp.tk (i := 3) (oi := ⟨some 44, Op.load 61 (Operand.tmp 43), _, _, _, none⟩) _ (fun _ q => q) (fun W hW => by (have F := Hp.Sh.facts hW); (have hd := Hp.Sh.data hW); (try simp only [Hp.Facts, Hp.CellsAt, Nat.reduceAdd, Hp.c1, Hp.c2] at F); have hcs := C1.out _ (Hp.Sh.imp hW fun _ _ => trivial); go_simp; (try with_reducible rfl)) ?_)
          (refine Hp.tks (i := 6) (oi := ⟨some 47, Op.move (Operand.tmp 7), _, _, _, none⟩) (fun _ q => q) ?_)
          (refine Hp.tks (i := 7) (oi := ⟨some 48, Op.binOp BinOp.sub 3 (Operand.tmp 47) (Operand.const (Value.int IntKind.i64 15)) 3, _, _, _, none⟩) (fun _ q => q) ?_)
          (refine Hp.tks (i := 8) (oi := ⟨some 49, Op.indexAddr 104 (Operand.tmp 3) (Operand.tmp 48), _, _, _, none⟩) (fun _ q => q) ?_)
          (refine Hp.tk (i := 9) (oi := ⟨some 50, Op.load 61 (Operand.tmp 49), _, _, _, none⟩) _ (fun _ q => q) (fun W hW => by (have F := Hp.Sh.facts hW); (have hd := Hp.Sh.data hW); (try simp only [Hp.Facts, Hp.CellsAt, Nat.reduceAdd, Hp.c1, Hp.c2] at F); have hcs := C1.out _ (Hp.Sh.imp hW fun _ _ => trivial); go_simp; (try with_reducible rfl)) ?_)
          (refine Hp.tks (i := 10) (oi := ⟨some 51, Op.binOp BinOp.shr 61 (Operand.tmp 50) (Operand.const (Value.int IntKind.u64 3)) 83, _, _, _, none⟩) (fun _ q => q) ?_)
          refine Hp.soft_make (i := 4) (o := ⟨some 45, Op.buildSlice 43 2 #[(0, Operand.const (Value.int IntKind.i64 7)), (1, Operand.const (Value.int IntKind.i64 18))], _, _, _, none⟩) (by kernel_rfl) rfl (by rfl) (fun w1 sh K hK => ?_); (try clear F); (try have F := Hp.Sh.facts sh); (try simp only [Hp.Facts, Hp.CellsAt, Nat.reduceAdd, Hp.c1, Hp.c2] at F); (refine Hp.wp_lit 2 (DigP.ns [7, 18]) Tryd.i_i64 Tryd.underlying43 sh rfl rfl (by omega) rfl ?_; clear sh; intro bl w1 sh; replace sh := sh.freeze1 (vs := DigP.ns [7, 18]) (fun i v h => by simpa using h)); refine hK _ _ _ _ _ _ (fun _ q => q) (fun _ q => q.imp fun W h => h.2) sh ?_; clear hK K; clear sh; (try clear F); (try simp only [Act.put, Hp.p1, Hp.p2, Hp.p3])
          (refine Hp.cl (i := 5) (oi := ⟨some 46, Op.call { callee := Callee.value (Operand.func 78), args := #[Operand.tmp 44, Operand.tmp 45], argTypes := #[61, 43] }, _, _, _, none⟩) _ _ _ (fun _ q => q) (fun W hW => by go_simp) (fun W hW => (K1.out W _ hW.data.1)) ?_)
          (refine Hp.tks (i := 11) (oi := ⟨some 52, Op.binOp BinOp.xor 61 (Operand.tmp 46) (Operand.tmp 51) 61, _, _, _, none⟩) (fun _ q => q) ?_)
          (refine Hp.tks (i := 12) (oi := ⟨some 8, Op.assign (Operand.tmp 52), _, _, _, none⟩) (fun _ q => q) ?_)
          refine Hp.soft_done (by kernel_rfl) (fun w1 sh => ?_) _; (try clear F); (try have F := Hp.Sh.facts sh); (try simp only [Hp.Facts, Hp.CellsAt, Nat.reduceAdd, Hp.c1, Hp.c2] at F)
          replace sh := Hp.Sh.imp sh fun _ _ => trivial
          have F := sh.fx
          go_wp2_with (first
              | ((with_reducible first | refine Hp.wpl_box sh ?_ ?_ | refine Hp.wpa sh ?_ ?_ | refine Hp.atl_store ?_ ?_); exact rfl; (try (refine Hp.wsB sh ?_)); clear sh; (try clear F); go_simp; (first | intro b w1 sh | intro w1 sh); have F := sh.fx)
              | fail)
          refine Hp.region_soft (by kernel_rfl) sh (fun _ q => q) ?_; clear sh; (try clear F)
          (try simp only [Hp.p2, Hp.p3])
          (refine Hp.tks (i := 0) (oi := ⟨some 53, Op.move (Operand.tmp 7), _, _, _, none⟩) (fun _ q => q) ?_)
          (refine Hp.tks (i := 1) (oi := ⟨some 54, Op.binOp BinOp.sub 3 (Operand.tmp 53) (Operand.const (Value.int IntKind.i64 2)) 3, _, _, _, none⟩) (fun _ q => q) ?_)
          (refine Hp.tks (i := 2) (oi := ⟨some 55, Op.indexAddr 104 (Operand.tmp 3) (Operand.tmp 54), _, _, _, none⟩) (fun _ q => q) ?_)
          (refine Hp.tk (i := 3) (oi := ⟨some 56, Op.load 61 (Operand.tmp 55), _, _, _, none⟩) _ (fun _ q => q) (fun W hW => by (have F := Hp.Sh.facts hW); (have hd := Hp.Sh.data hW); (try simp only [Hp.Facts, Hp.CellsAt, Nat.reduceAdd, Hp.c1, Hp.c2] at F); have hcs := C14.out _ (Hp.Sh.imp hW fun _ _ => trivial); go_simp; (try with_reducible rfl)) ?_)
          (refine Hp.tks (i := 6) (oi := ⟨some 59, Op.move (Operand.tmp 7), _, _, _, none⟩) (fun _ q => q) ?_)
          (refine Hp.tks (i := 7) (oi := ⟨some 60, Op.binOp BinOp.sub 3 (Operand.tmp 59) (Operand.const (Value.int IntKind.i64 2)) 3, _, _, _, none⟩) (fun _ q => q) ?_)
          (refine Hp.tks (i := 8) (oi := ⟨some 61, Op.indexAddr 104 (Operand.tmp 3) (Operand.tmp 60), _, _, _, none⟩) (fun _ q => q) ?_)
          (refine Hp.tk (i := 9) (oi := ⟨some 62, Op.load 61 (Operand.tmp 61), _, _, _, none⟩) _ (fun _ q => q) (fun W hW => by (have F := Hp.Sh.facts hW); (have hd := Hp.Sh.data hW); (try simp only [Hp.Facts, Hp.CellsAt, Nat.reduceAdd, Hp.c1, Hp.c2] at F); have hcs := C14.out _ (Hp.Sh.imp hW fun _ _ => trivial); go_simp; (try with_reducible rfl)) ?_)
          (refine Hp.tks (i := 10) (oi := ⟨some 63, Op.binOp BinOp.shr 61 (Operand.tmp 62) (Operand.const (Value.int IntKind.u64 10)) 83, _, _, _, none⟩) (fun _ q => q) ?_)
          refine Hp.soft_make (i := 4) (o := ⟨some 57, Op.buildSlice 43 2 #[(0, Operand.const (Value.int IntKind.i64 17)), (1, Operand.const (Value.int IntKind.i64 19))], _, _, _, none⟩) (by kernel_rfl) rfl (by rfl) (fun w1 sh K hK => ?_); (try clear F); (try have F := Hp.Sh.facts sh); (try simp only [Hp.Facts, Hp.CellsAt, Nat.reduceAdd, Hp.c1, Hp.c2] at F); (refine Hp.wp_lit 2 (DigP.ns [17, 19]) Tryd.i_i64 Tryd.underlying43 sh rfl rfl (by omega) rfl ?_; clear sh; intro bl w1 sh; replace sh := sh.freeze1 (vs := DigP.ns [17, 19]) (fun i v h => by simpa using h)); refine hK _ _ _ _ _ _ (fun _ q => q) (fun _ q => q.imp fun W h => h.2) sh ?_; clear hK K; clear sh; (try clear F); (try simp only [Act.put, Hp.p1, Hp.p2, Hp.p3])
          (refine Hp.cl (i := 5) (oi := ⟨some 58, Op.call { callee := Callee.value (Operand.func 78), args := #[Operand.tmp 56, Operand.tmp 57], argTypes := #[61, 43] }, _, _, _, none⟩) _ _ _ (fun _ q => q) (fun W hW => by go_simp) (fun W hW => (K2.out W _ hW.data.1)) ?_)
          (refine Hp.tks (i := 11) (oi := ⟨some 64, Op.binOp BinOp.xor 61 (Operand.tmp 58) (Operand.tmp 63) 61, _, _, _, none⟩) (fun _ q => q) ?_)
          (refine Hp.tks (i := 12) (oi := ⟨some 9, Op.assign (Operand.tmp 64), _, _, _, none⟩) (fun _ q => q) ?_)
          refine Hp.soft_done (by kernel_rfl) (fun w1 sh => ?_) _; (try clear F); (try have F := Hp.Sh.facts sh); (try simp only [Hp.Facts, Hp.CellsAt, Nat.reduceAdd, Hp.c1, Hp.c2] at F)
          replace sh := Hp.Sh.imp sh fun _ _ => trivial
          have F := sh.fx
          go_wp2_with (first
              | ((with_reducible first | refine Hp.wpl_box sh ?_ ?_ | refine Hp.wpa sh ?_ ?_ | refine Hp.atl_store ?_ ?_); exact rfl; (try (refine Hp.wsB sh ?_)); clear sh; (try clear F); go_simp; (first | intro b w1 sh | intro w1 sh); have F := sh.fx)
              | fail)
          refine Hp.region_soft (by kernel_rfl) sh (fun _ q => Hp.Sh.drop1 q) ?_; clear sh; (try clear F)
          (try simp only [Hp.p2, Hp.p3])
          (refine Hp.tks (i := 0) (oi := ⟨some 65, Op.move (Operand.tmp 7), _, _, _, none⟩) (fun _ q => Hp.Sh.drop1 q) ?_)
          (refine Hp.tks (i := 1) (oi := ⟨some 66, Op.move (Operand.tmp 7), _, _, _, none⟩) (fun _ q => Hp.Sh.drop1 q) ?_)
          (refine Hp.tks (i := 2) (oi := ⟨some 67, Op.binOp BinOp.sub 3 (Operand.tmp 66) (Operand.const (Value.int IntKind.i64 16)) 3, _, _, _, none⟩) (fun _ q => Hp.Sh.drop1 q) ?_)
          (refine Hp.tks (i := 3) (oi := ⟨some 68, Op.indexAddr 104 (Operand.tmp 3) (Operand.tmp 67), _, _, _, none⟩) (fun _ q => Hp.Sh.drop1 q) ?_)
          (refine Hp.tks (i := 5) (oi := ⟨some 70, Op.move (Operand.tmp 8), _, _, _, none⟩) (fun _ q => Hp.Sh.drop1 q) ?_)
          (refine Hp.tks (i := 7) (oi := ⟨some 72, Op.move (Operand.tmp 7), _, _, _, none⟩) (fun _ q => Hp.Sh.drop1 q) ?_)
          (refine Hp.tks (i := 8) (oi := ⟨some 73, Op.binOp BinOp.sub 3 (Operand.tmp 72) (Operand.const (Value.int IntKind.i64 7)) 3, _, _, _, none⟩) (fun _ q => Hp.Sh.drop1 q) ?_)
          (refine Hp.tks (i := 9) (oi := ⟨some 74, Op.indexAddr 104 (Operand.tmp 3) (Operand.tmp 73), _, _, _, none⟩) (fun _ q => Hp.Sh.drop1 q) ?_)
          (refine Hp.tks (i := 12) (oi := ⟨some 77, Op.move (Operand.tmp 9), _, _, _, none⟩) (fun _ q => Hp.Sh.drop1 q) ?_)
          refine Hp.soft_two (i := 4) (j := 10) (by kernel_rfl) ?_ ?_
          · refine Hp.soft_step (o := ⟨some 69, Op.load 61 (Operand.tmp 68), _, _, _, none⟩) rfl (by rfl) (fun w1 sh K hK => ?_); (try clear F); (try have F := Hp.Sh.facts sh); (try simp only [Hp.Facts, Hp.CellsAt, Nat.reduceAdd, Hp.c1, Hp.c2] at F); (have hcs := C0.out _ sh; go_simp); refine hK _ _ _ _ _ _ (fun _ q => Hp.Sh.drop1 q) (fun _ q => q) sh ?_; clear hK K; clear sh; (try clear F); (try simp only [Act.put, Hp.p1, Hp.p2, Hp.p3])
            (refine Hp.tks (i := 6) (oi := ⟨some 71, Op.binOp BinOp.add 61 (Operand.tmp 69) (Operand.tmp 70) 61, _, _, _, none⟩) (fun _ q => Hp.Sh.drop1 q) ?_)
            refine Hp.soft_make (i := 10) (o := ⟨some 75, Op.load 61 (Operand.tmp 74), _, _, _, none⟩) (by kernel_rfl) rfl (by rfl) (fun w1 sh K hK => ?_); (try clear F); (try have F := Hp.Sh.facts sh); (try simp only [Hp.Facts, Hp.CellsAt, Nat.reduceAdd, Hp.c1, Hp.c2] at F); (have hcs := C9.out _ sh; go_simp); refine hK _ _ _ _ _ _ (fun _ q => Hp.Sh.drop1 q) (fun _ q => q) sh ?_; clear hK K; clear sh; (try clear F); (try simp only [Act.put, Hp.p1, Hp.p2, Hp.p3])
            (refine Hp.tks (i := 11) (oi := ⟨some 76, Op.binOp BinOp.add 61 (Operand.tmp 71) (Operand.tmp 75) 61, _, _, _, none⟩) (fun _ q => Hp.Sh.drop1 q) ?_)
            (refine Hp.tks (i := 13) (oi := ⟨some 78, Op.binOp BinOp.add 61 (Operand.tmp 76) (Operand.tmp 77) 61, _, _, _, none⟩) (fun _ q => Hp.Sh.drop1 q) ?_)
            (refine Hp.tks (i := 14) (oi := ⟨some 79, Op.indexAddr 104 (Operand.tmp 3) (Operand.tmp 65), _, _, _, none⟩) (fun _ q => Hp.Sh.drop1 q) ?_)
            refine Hp.soft_make (i := 15) (o := ⟨none, Op.store 61 (Operand.tmp 79) (Operand.tmp 78), _, _, _, none⟩) (by kernel_rfl) rfl (by rfl) (fun w1 sh K hK => ?_); (try clear F); (try have F := Hp.Sh.facts sh); (try simp only [Hp.Facts, Hp.CellsAt, Nat.reduceAdd, Hp.c1, Hp.c2] at F); (refine Hp.wp_store 0 sh rfl rfl rfl rfl (by kernel_rfl) (hsz) rfl ?_; clear sh; go_simp; intro w1 sh; rw [HS.out] at sh); refine hK _ _ _ _ _ _ (fun _ q => Hp.Sh.drop1 q) (fun _ q => q) sh ?_; clear hK K; clear sh; (try clear F); (try simp only [Act.put, Hp.p1, Hp.p2, Hp.p3])
            refine Hp.soft_done (by kernel_rfl) (fun w1 sh => ?_) _; (try clear F); (try have F := Hp.Sh.facts sh); (try simp only [Hp.Facts, Hp.CellsAt, Nat.reduceAdd, Hp.c1, Hp.c2] at F)
            (clear X1 X2 s3 s10 A1 A2 A3 A1' A2' A3' j1 j2 j3 j4 j5 j6 j7 j8 u1 u2 u3' u4 n0 n1 n2 n4 b1 b2 b3 b4 p0 p1 p2 p4 K1 K2 C0 C1 C9 C14 HS HN; go_wp2; (refine ⟨?_, ?measure⟩; (repeat apply Exists.intro); (refine And.intro ?rel ?eqq); (case eqq => rfl); (case rel => exact ⟨k + 1, by go_num, by omega, by rw [HY.out]; exact sh⟩); (case measure => simp [intOf]; omega)))
          · refine Hp.soft_step (o := ⟨some 75, Op.load 61 (Operand.tmp 74), _, _, _, none⟩) rfl (by rfl) (fun w1 sh K hK => ?_); (try clear F); (try have F := Hp.Sh.facts sh); (try simp only [Hp.Facts, Hp.CellsAt, Nat.reduceAdd, Hp.c1, Hp.c2] at F); (have hcs := C9.out _ sh; go_simp); refine hK _ _ _ _ _ _ (fun _ q => Hp.Sh.drop1 q) (fun _ q => q) sh ?_; clear hK K; clear sh; (try clear F); (try simp only [Act.put, Hp.p1, Hp.p2, Hp.p3])
            refine Hp.soft_make (i := 4) (o := ⟨some 69, Op.load 61 (Operand.tmp 68), _, _, _, none⟩) (by kernel_rfl) rfl (by rfl) (fun w1 sh K hK => ?_); (try clear F); (try have F := Hp.Sh.facts sh); (try simp only [Hp.Facts, Hp.CellsAt, Nat.reduceAdd, Hp.c1, Hp.c2] at F); (have hcs := C0.out _ sh; go_simp); refine hK _ _ _ _ _ _ (fun _ q => Hp.Sh.drop1 q) (fun _ q => q) sh ?_; clear hK K; clear sh; (try clear F); (try simp only [Act.put, Hp.p1, Hp.p2, Hp.p3])
            (refine Hp.tks (i := 6) (oi := ⟨some 71, Op.binOp BinOp.add 61 (Operand.tmp 69) (Operand.tmp 70) 61, _, _, _, none⟩) (fun _ q => Hp.Sh.drop1 q) ?_)
            (refine Hp.tks (i := 11) (oi := ⟨some 76, Op.binOp BinOp.add 61 (Operand.tmp 71) (Operand.tmp 75) 61, _, _, _, none⟩) (fun _ q => Hp.Sh.drop1 q) ?_)
            (refine Hp.tks (i := 13) (oi := ⟨some 78, Op.binOp BinOp.add 61 (Operand.tmp 76) (Operand.tmp 77) 61, _, _, _, none⟩) (fun _ q => Hp.Sh.drop1 q) ?_)
            (refine Hp.tks (i := 14) (oi := ⟨some 79, Op.indexAddr 104 (Operand.tmp 3) (Operand.tmp 65), _, _, _, none⟩) (fun _ q => Hp.Sh.drop1 q) ?_)
            refine Hp.soft_make (i := 15) (o := ⟨none, Op.store 61 (Operand.tmp 79) (Operand.tmp 78), _, _, _, none⟩) (by kernel_rfl) rfl (by rfl) (fun w1 sh K hK => ?_); (try clear F); (try have F := Hp.Sh.facts sh); (try simp only [Hp.Facts, Hp.CellsAt, Nat.reduceAdd, Hp.c1, Hp.c2] at F); (refine Hp.wp_store 0 sh rfl rfl rfl rfl (by kernel_rfl) (hsz) rfl ?_; clear sh; go_simp; intro w1 sh; rw [HS.out] at sh); refine hK _ _ _ _ _ _ (fun _ q => Hp.Sh.drop1 q) (fun _ q => q) sh ?_; clear hK K; clear sh; (try clear F); (try simp only [Act.put, Hp.p1, Hp.p2, Hp.p3])
            refine Hp.soft_done (by kernel_rfl) (fun w1 sh => ?_) _; (try clear F); (try have F := Hp.Sh.facts sh); (try simp only [Hp.Facts, Hp.CellsAt, Nat.reduceAdd, Hp.c1, Hp.c2] at F)
            (clear X1 X2 s3 s10 A1 A2 A3 A1' A2' A3' j1 j2 j3 j4 j5 j6 j7 j8 u1 u2 u3' u4 n0 n1 n2 n4 b1 b2 b3 b4 p0 p1 p2 p4 K1 K2 C0 C1 C9 C14 HS HN; go_wp2; (refine ⟨?_, ?measure⟩; (repeat apply Exists.intro); (refine And.intro ?rel ?eqq); (case eqq => rfl); (case rel => exact ⟨k + 1, by go_num, by omega, by rw [HY.out]; exact sh⟩); (case measure => simp [intOf]; omega)))
        · obtain rfl : k = 48 := by omega
          rw [DigP.padW_full (DigP.wordsN_length l 48)] at sh
          rw [show DigP.wordsN l 48 = DigP.words l from rfl] at sh
          have HL := DigP.wordsN_length l 48
          rw [show DigP.wordsN l 48 = DigP.words l from rfl] at HL
          generalize hw : DigP.words l = ws at sh HL
          have HW := Lib.hid hw
          clear hw
          have hli : (Tryd.prog.info? 104).map (·.size) = some (DigP.wA ws).size := by rw [DigP.wA_size, HL]; kernel_rfl
          have hsz : (DigP.wA ws).size = (DigP.wA DigP.zero64).size := by rw [DigP.wA_size, HL, DigP.wA_size]; rfl
          have hon : Hp.ones (DigP.wA ws).toList = true := DigP.ones_wds ws
          have hif : (Tryd.prog.info? 104).map (·.size) = some (DigP.wA DigP.zero64).size := by kernel_rfl
          have F := sh.fx
          have HLI := Lib.hid hli
          have HSZ := Lib.hid hsz
          have HON := Lib.hid hon
          have HIF := Lib.hid hif
          clear hli hsz hon hif HL
          go_wp2_with (first
              | ((with_reducible refine Hp.atl_load 104 ?_); (refine Hp.wpl_load_all 0 sh rfl rfl rfl Tryd.underlying104 rfl (HLI.out) ?_); go_simp)
              | ((with_reducible refine Hp.atl_store ?_ ?_); exact rfl; (refine Hp.wp_store_all 1 sh rfl rfl rfl HSZ.out HIF.out HON.out ?_); clear sh; (try clear F); intro w1 sh; have F := sh.fx)
              | ((with_reducible first | refine Hp.wpl_box sh ?_ ?_ | refine Hp.wpa sh ?_ ?_ | refine Hp.atl_store ?_ ?_); exact rfl; (try (refine Hp.wsB sh ?_)); clear sh; (try clear F); go_simp; (first | intro b w1 sh | intro w1 sh); have F := sh.fx)
              | fail)
          exact bodyPost_ret (Hp.res_c rfl rfl (sh.load 1 rfl (by kernel_rfl) HLI.out)) rfl ⟨congrArg (fun x => Ending.returned (.agg (DigP.wA x))) HW.out.symm, sh.below⟩

end Go.Proofs.YtfcffglgkblidaaDoor
