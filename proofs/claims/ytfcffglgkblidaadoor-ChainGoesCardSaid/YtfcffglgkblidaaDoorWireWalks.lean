
/-
  The walks of package wire and of its reference.
-/
import Derived.Test.YtfcffglgkblidaaDoorRows
import Derived.Test.YtfcffglgkblidaaDoorWirePlain
import Derived.Test.YtfcffglgkblidaaDoorBytes
import Derived.Deep.LoopGhost
namespace Go.Proofs.YtfcffglgkblidaaDoor
open Go.RowKit
set_option linter.unusedVariables false
set_option linter.unusedSimpArgs false

theorem Tryd.winfo_u8 : (Tryd.prog.info? 5).map (fun i => (i.zero, i.size, i.bytes)) = some (some (.int .u8 0), 1, 1) := by kernel_rfl

theorem WireP.sign_neg {n : Int} (h : ¬ 0 ≤ n) : 2 * -(n + 1) + 1 = WireP.sign n := by unfold WireP.sign; rw [if_neg h]
theorem WireP.sign_neg' {n : Int} (h : ¬ 0 ≤ n) (h1 : -9223372036854775808 ≤ n) : IntKind.u64.wrap (IntKind.u64.wrap (2 * IntKind.u64.wrap (-IntKind.u64.wrap n)) - 1) = WireP.sign n := by
  simp only [wrapU64]; unfold WireP.sign; rw [if_neg h]; omega
theorem WireP.signed_odd {n : Int} (h : ¬ n % 2 = 0) : -(n / 2) - 1 = WireP.signed n := by unfold WireP.signed; rw [if_neg h]
theorem WireP.signed_odd' {n : Int} (h : ¬ n % 2 = 0) : -1 - n / 2 = WireP.signed n := by unfold WireP.signed; rw [if_neg h]; omega

theorem WireP.or128 (m : Nat) : bits .or .u8 ((m : Int) % 256) 128 = ((m % 128 + 128 : Nat) : Int) := by
  have h : ∀ x : Fin 256, bits .or .u8 ((x.val : Nat) : Int) 128 = ((x.val % 128 + 128 : Nat) : Int) := by decide +kernel
  have := h ⟨m % 256, by omega⟩
  rw [show ((m : Int) % 256) = ((m % 256 : Nat) : Int) by omega, this]
  simp only []
  omega

set_option maxHeartbeats 400000 in
set_option maxRecDepth 100000 in
theorem wirePut_any (n : Nat) (w : World) (hn : n < 18446744073709551616) :
    Calls Tryd.prog 36 #[.int .u64 n] w fun e w' => e = .returned (.string (bstr (WireP.putL n))) ∧ Below w.heap.size w w' := by
  have hmk : ∀ W : World, (Instr.makeSlice 51 (.int .i64 0) (.int .i64 10)).run Tryd.prog W = .ok (.slice (some ⟨W.heap.size, 0, none⟩) 0 10) (W.alloc (.cells #[.int .u8 0, .int .u8 0, .int .u8 0, .int .u8 0, .int .u8 0, .int .u8 0, .int .u8 0, .int .u8 0, .int .u8 0, .int .u8 0] 5)) := fun _ => by kernel_rfl
  have HL := Lib.hid (WireP.putL_le10 n hn)
  have HN := Lib.hid hn
  clear hn
  go_enter Tryd.func36, Tryd.ntmps36
  go_wp2
  refine wp_scope_jumps 0 (fun a' w' => ∃ (m : Nat) (pre : List UInt8) (v u4 u5 u6 u7 u8 u9 u10 u11 u12 u13 u14 : Value), m < 128 ∧ pre.length ≤ 10 ∧ Hid (pre ++ WireP.putL m = WireP.putL n) ∧
      w'.ownsRow w.heap.size 5 1 v pre.length (bcells pre) ∧ Below w.heap.size w w' ∧
      a' = { tmps := #[.int .u64 m, undef, .string ⟨#[]⟩, v, u4, u5, u6, u7, u8, u9, u10, u11, u12, u13, u14, undef, undef, undef, undef, undef, undef], defers := [] }) (fun _ _ => 0) rfl ?_ ?_
  · go_wp2
    clear hmk
    go_loopw [0, 3] (fun a v wr => ∃ (m : Nat) (pre : List UInt8), a = .int .u64 m ∧ Hid (pre ++ WireP.putL m = WireP.putL n) ∧
        wr.ownsRow w.heap.size 5 1 v pre.length (bcells pre) ∧ Below w.heap.size w wr)
      (fun a _ _ => (intOf a).toNat)
    case atStart => exact ⟨n, [], rfl, rfl, World.ownsRow_made _ _ _ (Nat.le_refl _) (by decide) (by rfl), (Below.refl _ _).alloc (Nat.le_refl _) _⟩
    case round =>
      obtain ⟨m, pre, rfl, hput, hown, hb⟩ := hrel
      have hz := hb.size
      have hpl : pre.length ≤ 10 := by have h1 := congrArg List.length hput.out; have h2 := HL.out; rw [List.length_append] at h1; omega
      by_cases hs : m < 128
      · go_wp2_with fail
        go_step3
        exact ⟨rfl, m, pre, _, _, _, _, _, _, _, _, _, _, _, _, hs, hpl, hput, hown, hb, rfl⟩
      · have hor := WireP.or128 m
        have HC := Lib.hid (show ((m % 128 + 128 : Nat) : Int) = ((UInt8.ofNat (m % 128 + 128)).toNat : Int) by rw [WireP.big])
        have HB := Lib.hid (WireP.putL_big hs)
        go_wp2_with (at_builtin; refine wpList_append_byte rfl _ _ 51 rfl w.heap.size 5 Tryd.winfo_u8 Tryd.underlying51 _ _ pre rfl hown (UInt8.ofNat (m % 128 + 128)) _ HC.out rfl hz (by omega) ?_; intro v' w1 hown1 hb1)
        go_wp2
        go_roundw
        case rel => exact ⟨m / 128, pre ++ [UInt8.ofNat (m % 128 + 128)], by go_num, by show _ = _; rw [List.append_assoc, List.singleton_append, ← HB.out]; exact hput.out, by simpa using hown1, hb.trans hb1⟩
        case measure => simp [intOf]; omega
  · rintro a' w' ⟨m, pre, v, u4, u5, u6, u7, u8, u9, u10, u11, u12, u13, u14, hs, hpl, hput, hown, hb, rfl⟩
    have hz := hb.size
    have HC := Lib.hid (show (m : Int) = ((UInt8.ofNat m).toNat : Int) by rw [WireP.small hs])
    have HB := Lib.hid (WireP.putL_small hs)
    go_wp2_with (at_builtin; refine wpList_append_byte rfl _ _ 51 rfl w.heap.size 5 Tryd.winfo_u8 Tryd.underlying51 _ _ pre rfl hown (UInt8.ofNat m) _ HC.out rfl hz (by omega) ?_; intro v' w1 hown1 hb1; have hcv := conv_owned (P := Tryd.prog) hown1 (by simp) Tryd.underlying51 Tryd.underlying5 Tryd.underlying9)
    simp only [Exit.jump]
    go_ret
    exact ⟨ret_str (by rw [← hput.out, HB.out]), hb.trans hb1⟩

set_option maxHeartbeats 400000 in
set_option maxRecDepth 100000 in
theorem wireRefPut_any (n : Nat) (w : World) (hn : n < 18446744073709551616) :
    Calls Tryd.prog 43 #[.int .u64 n] w fun e w' => e = .returned (.string (bstr (WireP.putL n))) ∧ Below w.heap.size w w' := by
  have HL := Lib.hid (WireP.putL_le10 n hn)
  have HN := Lib.hid hn
  have hn' : (n : Int) ≤ 18446744073709551615 := by omega
  clear hn
  go_enter Tryd.func43, Tryd.ntmps43
  go_wp2
  go_loopw [0, 3] (fun a v wr => ∃ (m : Nat) (pre : List UInt8), a = .int .u64 m ∧ (m : Int) ≤ 18446744073709551615 ∧ Hid (pre ++ WireP.putL m = WireP.putL n) ∧
      wr.ownsRow w.heap.size 5 1 v pre.length (bcells pre) ∧ Below w.heap.size w wr)
    (fun a _ _ => (intOf a).toNat)
  case atStart => exact ⟨n, [], rfl, hn', rfl, World.ownsRow_nil _ _ _ _, Below.refl _ _⟩
  case round =>
    obtain ⟨m, pre, rfl, hm, hput, hown, hb⟩ := hrel
    have hz := hb.size
    have hpl : pre.length ≤ 10 := by have h1 := congrArg List.length hput.out; have h2 := HL.out; rw [List.length_append] at h1; omega
    by_cases hs : m < 128
    · have HC := Lib.hid (show (m : Int) = ((UInt8.ofNat m).toNat : Int) by rw [WireP.small hs])
      have HB := Lib.hid (WireP.putL_small hs)
      go_wp2_with (at_builtin; refine wpList_append_byte rfl _ _ 51 rfl w.heap.size 5 Tryd.winfo_u8 Tryd.underlying51 _ _ pre rfl hown (UInt8.ofNat m) _ HC.out rfl hz (by omega) ?_; intro v' w1 hown1 hb1; have hcv := conv_owned (P := Tryd.prog) hown1 (by simp) Tryd.underlying51 Tryd.underlying5 Tryd.underlying9)
      go_ret
      exact ⟨ret_str (by rw [← hput.out, HB.out]), hb.trans hb1⟩
    · have HC := Lib.hid (show (m : Int) % 128 + 128 = ((UInt8.ofNat (m % 128 + 128)).toNat : Int) by rw [WireP.big]; omega)
      have HB := Lib.hid (WireP.putL_big hs)
      go_wp2_with (at_builtin; refine wpList_append_byte rfl _ _ 51 rfl w.heap.size 5 Tryd.winfo_u8 Tryd.underlying51 _ _ pre rfl hown (UInt8.ofNat (m % 128 + 128)) _ HC.out rfl hz (by omega) ?_; intro v' w1 hown1 hb1)
      go_wp2
      go_roundw
      case rel => exact ⟨m / 128, pre ++ [UInt8.ofNat (m % 128 + 128)], by go_num, by omega, by show _ = _; rw [List.append_assoc, List.singleton_append, ← HB.out]; exact hput.out, by simpa using hown1, hb.trans hb1⟩
      case measure => simp [intOf]; omega

set_option maxHeartbeats 400000 in
set_option maxRecDepth 100000 in
theorem wireCutI_any (b : ByteArray) (i : Int) (w : World) (h0 : 0 ≤ i) (hi : i ≤ b.size) :
    Calls Tryd.prog 66 #[.string b, .int .i64 i] w fun e w' => e = .returned (.tuple #[.string (b.extract 0 i.toNat), .string (b.extract i.toNat b.size)]) ∧ Below w.heap.size w w' := by
  go_enter Tryd.func66, Tryd.ntmps66
  go_wp2
  go_quiet (fail)
  go_wp2
  go_ret2
  exact ⟨rfl, bdrewN (Below.refl _ _) _⟩

set_option maxHeartbeats 400000 in
set_option maxRecDepth 100000 in
theorem wireCutU_any (b : ByteArray) (i : Int) (w : World) (h0 : 0 ≤ i) (hi : i ≤ b.size) (hb : b.size ≤ 140737488351232) :
    Calls Tryd.prog 88 #[.string b, .int .u64 i] w fun e w' => e = .returned (.tuple #[.string (b.extract 0 i.toNat), .string (b.extract i.toNat b.size)]) ∧ Below w.heap.size w w' := by
  go_enter Tryd.func88, Tryd.ntmps88
  go_wp2
  go_quiet (fail)
  go_wp2
  go_ret2
  exact ⟨rfl, bdrewN (Below.refl _ _) _⟩

theorem WireP.and127 (c : Nat) (h : c < 256) : bits .and .u8 (c : Int) 127 = ((c % 128 : Nat) : Int) := by
  have h' : ∀ x : Fin 256, bits .and .u8 ((x.val : Nat) : Int) 127 = ((x.val % 128 : Nat) : Int) := by decide +kernel
  exact h' ⟨c, h⟩

theorem WireP.pow128 (i : Nat) : (2 : Nat) ^ (7 * i) = 128 ^ i := by rw [Nat.pow_mul]

/-- 'n | d << (7 * i)', n below the i sevens, all of it below two to the power of 64. -/
theorem WireP.or_shift (n d i : Nat) (hn : n < 128 ^ i) (hs : n + d * 128 ^ i < 18446744073709551616) :
    bits .or .u64 (n : Int) (IntKind.u64.wrap ((d : Int) * 2 ^ (7 * i))) = ((n + d * 128 ^ i : Nat) : Int) := by
  have e : ((d : Int) * 2 ^ (7 * i)) = ((d * 128 ^ i : Nat) : Int) := by rw [← WireP.pow128]; simp
  have hlt : d * 128 ^ i < 18446744073709551616 := by omega
  have hnlt : n < 18446744073709551616 := by omega
  rw [e, IntWalk.u64_in _ (by omega)]
  have := (bits_nat .u64 64 (by decide) (fun x h0 h1 => IntWalk.u64_in x (by omega)) n (d * 128 ^ i) (by omega) (by omega)).2
  rw [this, Nat.or_comm, Nat.mul_comm d, ← WireP.pow128]
  rw [← WireP.pow128] at hn
  rw [← Nat.two_pow_add_eq_or_of_lt hn d]
  omega

def WireP.AtB (b : ByteArray) (m i : Nat) : Prop := WireP.At0 b.data.toList m i
theorem WireP.blen (b : ByteArray) : b.data.toList.length = b.size := Array.length_toList
theorem WireP.bget (b : ByteArray) (i : Nat) (h : i < b.size) (h' : i < b.data.toList.length) : b.data.toList[i] = b[i] := by simp; rfl
theorem WireP.ret3 {a a' : Int} {s s' : ByteArray} {e e' : Int} (h : a = a' ∧ s = s' ∧ e = e') :
    Ending.returned (.tuple #[.int .u64 a, .string s, .int .i64 e]) = .returned (.tuple #[.int .u64 a', .string s', .int .i64 e']) := by
  obtain ⟨rfl, rfl, rfl⟩ := h; rfl
/-- What Take answers, as values. -/
def WireP.takeV (l : List UInt8) : Value := .tuple #[.int .u64 (WireP.takeL l).1, .string (bstr (WireP.takeL l).2.1), .int .i64 (WireP.takeL l).2.2]
theorem WireP.takeV_of {l : List UInt8} {r : Nat × List UInt8 × Int} (h : WireP.takeL l = r) : WireP.takeV l = .tuple #[.int .u64 r.1, .string (bstr r.2.1), .int .i64 r.2.2] := by rw [WireP.takeV, h]
theorem WireP.drop_str (b : ByteArray) (i : Nat) : b.extract i b.size = bstr (b.data.toList.drop i) := by
  rw [bstr_extract, ← WireP.blen, List.take_length]

set_option maxHeartbeats 1000000 in
set_option maxRecDepth 100000 in
theorem wireTake_any (b : ByteArray) (w : World) (hs : b.size ≤ 140737488351232) :
    Calls Tryd.prog 81 #[.string b] w fun e w' => e = .returned (WireP.takeV b.data.toList) ∧ Below w.heap.size w w' := by
  go_enter Tryd.func81, Tryd.ntmps81
  go_wp2
  refine wp_scope_jumps 0 (fun a' w' => ∃ (n c i : Nat) (hib : i < b.size) (u2 u3 u4 u10 u11 u12 u13 u14 u15 u16 u17 u18 u19 u20 u21 u22 u23 u24 u25 u26 u27 u28 u29 u30 : Value), i < 10 ∧ Hid (b[i].toNat = c) ∧ c < 128 ∧ WireP.AtB b n i ∧ w' = w ∧
      a' = { tmps := #[.string b, undef, u2, u3, u4, .int .u64 n, .int .u8 c, .int .i64 i, undef, undef, u10, u11, u12, u13, u14, u15, u16, u17, u18, u19, u20, u21, u22, u23, u24, u25, u26, u27, u28, u29, u30, undef, undef, undef, undef, undef, undef, undef, undef, undef, undef, undef, undef, undef, undef, undef, undef, undef, undef, undef, undef, undef, undef, undef, undef, undef, undef, undef], defers := [] }) (fun _ _ => 0) rfl ?_ ?_
  · go_wp2
    go_loop [5, 6, 7] (fun n c i => ∃ m k : Nat, ∃ x c0 : Int, n = .int .u64 x ∧ c = .int .u8 c0 ∧ i = .int .i64 k ∧ k ≤ 10 ∧ k ≤ b.size ∧ Hid (k < 10 → x = m) ∧ WireP.AtB b m k) (fun _ _ i => 10 - (intOf i).toNat)
    case atStart => exact ⟨0, 0, 0, 0, rfl, rfl, rfl, by omega, by omega, fun _ => rfl, WireP.At0.start _⟩
    case round =>
      obtain ⟨m, k, x, c0, rfl, rfl, rfl, hk, hkb, hx, hat⟩ := hrel
      by_cases h10 : k < 10
      · obtain rfl : x = m := hx.out h10
        clear hx
        by_cases hlt : k < b.size
        · obtain ⟨c, hc⟩ : ∃ c : Nat, b[k].toNat = c := ⟨_, rfl⟩
          have HC := Lib.hid hc
          have hcl : c < 256 := by rw [← hc]; exact b[k].toNat_lt
          have hk1 : (0 : Int) ≤ (k : Int) := by omega
          have hk2 : (k : Int) < (b.size : Int) := by omega
          have hkne : ((k : Int) == (b.size : Int)) = false := by rw [beq_eq_false_iff_ne]; omega
          by_cases hc1 : c < 128
          · go_wp2_with fail
            go_step3
            exact ⟨rfl, m, c, k, hlt, _, _, _, _, _, _, _, _, _, _, _, _, _, _, _, _, _, _, _, _, _, _, _, _, h10, HC, hc1, hat, rfl, rfl⟩
          · have hand := WireP.and127 c hcl
            have HJ : Hid (k < 9 → bits .or .u64 (m : Int) (IntKind.u64.wrap (((c % 128 : Nat) : Int) * 2 ^ (7 * k))) = ((m + c % 128 * 128 ^ k : Nat) : Int)) :=
              fun h => WireP.or_shift m (c % 128) k hat.1 (hat.room h10 (by omega) (by omega))
            have HA : WireP.AtB b (m + c % 128 * 128 ^ k) (k + 1) := WireP.At0.step hat h10 (by rw [WireP.blen]; exact hlt) (by rw [WireP.bget b k hlt]; exact hc) hc1
            go_wp2
            go_roundw
            case rel => exact ⟨m + c % 128 * 128 ^ k, k + 1, _, _, rfl, rfl, by go_num, by omega, by omega, fun h => HJ.out (by omega), HA⟩
            case measure => simp [intOf]; omega
        · obtain rfl : k = b.size := by omega
          have HT := Lib.hid (WireP.takeV_of (hat.none h10 (by rw [WireP.blen])))
          go_wp2
          simp only [Exit.jump]
          go_ret3
          exact ⟨by rw [HT.out]; rfl, Below.refl _ _⟩
      · obtain rfl : k = 10 := by omega
        have HT := Lib.hid (WireP.takeV_of hat.full)
        go_wp2
        simp only [Exit.jump]
        go_ret3
        exact ⟨by rw [HT.out]; rfl, Below.refl _ _⟩
  · rintro a' w' ⟨n, c, i, hib, u2, u3, u4, u10, u11, u12, u13, u14, u15, u16, u17, u18, u19, u20, u21, u22, u23, u24, u25, u26, u27, u28, u29, u30, hi, hc, hc1, hat, rfl, rfl⟩
    have hin : i + 1 ≤ b.size := by omega
    have hstop := hat.stop hi (by rw [WireP.blen]; exact hib) (by rw [WireP.bget b i hib]; exact hc.out) hc1
    by_cases h9 : i = 9 ∧ 1 < c
    · rw [if_pos h9] at hstop
      have HT := Lib.hid (WireP.takeV_of hstop)
      clear hstop
      obtain ⟨rfl, h91⟩ := h9
      go_wp2
      simp only [Exit.jump]
      go_ret3
      exact ⟨by rw [HT.out]; rfl, Below.refl _ _⟩
    · rw [if_neg h9] at hstop
      have hb1 : ((i : Int) == 9 && decide ((1 : Int) < (c : Int))) = false := by simp; omega
      by_cases h3 : c = 0 ∧ 0 < i
      · rw [if_pos h3] at hstop
        have HT := Lib.hid (WireP.takeV_of hstop)
        clear hstop
        obtain ⟨rfl, h31⟩ := h3
        by_cases hi9 : i = 9
        · subst hi9
          go_wp2
          simp only [Exit.jump]
          go_ret3
          exact ⟨by rw [HT.out]; rfl, Below.refl _ _⟩
        · go_wp2
          simp only [Exit.jump]
          go_ret3
          exact ⟨by rw [HT.out]; rfl, Below.refl _ _⟩
      · rw [if_neg h3] at hstop
        have HT := Lib.hid (WireP.takeV_of hstop)
        clear hstop
        have HJ := Lib.hid (WireP.or_shift n c i hat.1 (hat.room hi hc1 (by omega)))
        have HDR := Lib.hid (WireP.drop_str b (i + 1))
        have fin : ∀ (e : Ending) (W : World), e = .returned (.tuple #[.int .u64 (bits .or .u64 (n : Int) (IntKind.u64.wrap ((c : Int) * 2 ^ (7 * i)))), .string (b.extract (i + 1) b.size), .int .i64 0]) → Below w'.heap.size w' W →
            e = .returned (WireP.takeV b.data.toList) ∧ Below w'.heap.size w' W := fun e W he hb => ⟨by rw [he, HT.out, HJ.out, HDR.out], hb⟩
        have FIN := Lib.hid fin
        clear fin hb1
        by_cases hi9 : i = 9
        · have g1 : ((i : Int) == 9) = true := by rw [beq_iff_eq]; omega
          have g2 : decide ((1 : Int) < (c : Int)) = false := by rw [decide_eq_false_iff_not]; omega
          have g3 : ((c : Int) == 0) = false := by rw [beq_eq_false_iff_ne]; omega
          have HI := Lib.hid hi9
          clear hi9 h9 h3
          go_wp2_with fail
          refine (wireCutI_any b _ _ (by omega) (by omega)).mono ?_
          rintro e w1 ⟨rfl, hb1⟩
          go_wp2
          simp only [Exit.jump]
          go_ret3
          exact FIN.out _ _ rfl hb1
        · have g1 : ((i : Int) == 9) = false := by rw [beq_eq_false_iff_ne]; omega
          by_cases hc0 : c = 0
          · have g3 : ((c : Int) == 0) = true := by rw [beq_iff_eq]; omega
            have g4 : i ≤ 0 := by omega
            have HI := Lib.hid hc0
            clear hc0 hi9 h9 h3
            go_wp2_with fail
            refine (wireCutI_any b _ _ (by omega) (by omega)).mono ?_
            rintro e w1 ⟨rfl, hb1⟩
            go_wp2
            simp only [Exit.jump]
            go_ret3
            exact FIN.out _ _ rfl hb1
          · have g3 : ((c : Int) == 0) = false := by rw [beq_eq_false_iff_ne]; omega
            clear hi9 h9 h3
            go_wp2_with fail
            refine (wireCutI_any b _ _ (by omega) (by omega)).mono ?_
            rintro e w1 ⟨rfl, hb1⟩
            go_wp2
            simp only [Exit.jump]
            go_ret3
            exact FIN.out _ _ rfl hb1

/-- 'n + d << (7 * i)': the reference's own. -/
theorem WireP.add_shift (n d i : Nat) (hs : n + d * 128 ^ i < 18446744073709551616) :
    IntKind.u64.wrap ((n : Int) + IntKind.u64.wrap ((d : Int) * 2 ^ (7 * i))) = ((n + d * 128 ^ i : Nat) : Int) := by
  have e : ((d : Int) * 2 ^ (7 * i)) = ((d * 128 ^ i : Nat) : Int) := by rw [← WireP.pow128]; simp
  rw [e, IntWalk.u64_in ((d * 128 ^ i : Nat) : Int) (by omega), IntWalk.u64_in _ (by omega)]
  omega

set_option maxHeartbeats 1000000 in
set_option maxRecDepth 100000 in
theorem wireRefTake_any (b : ByteArray) (w : World) (hs : b.size ≤ 140737488351232) :
    Calls Tryd.prog 73 #[.string b] w fun e w' => e = .returned (WireP.takeV b.data.toList) ∧ Below w.heap.size w w' := by
  go_enter Tryd.func73, Tryd.ntmps73
  go_wp2
  go_loopw [5, 6] (fun n i wr => ∃ m k : Nat, ∃ x : Int, n = .int .u64 x ∧ i = .int .i64 k ∧ k ≤ 10 ∧ k ≤ b.size ∧ Hid (k < 10 → x = m) ∧ WireP.AtB b m k ∧ wr = w) (fun _ i _ => 10 - (intOf i).toNat)
  case atStart => exact ⟨0, 0, 0, rfl, rfl, by omega, by omega, fun _ => rfl, WireP.At0.start _, rfl⟩
  case round =>
    obtain ⟨m, k, x, rfl, rfl, hk, hkb, hx, hat, rfl⟩ := hrel
    by_cases h10 : k < 10
    · obtain rfl : x = m := hx.out h10
      clear hx
      by_cases hlt : k < b.size
      · obtain ⟨c, hc⟩ : ∃ c : Nat, b[k].toNat = c := ⟨_, rfl⟩
        have HC := Lib.hid hc
        have hcl : c < 256 := by rw [← hc]; exact b[k].toNat_lt
        have hk1 : (0 : Int) ≤ (k : Int) := by omega
        have hk2 : (k : Int) < (b.size : Int) := by omega
        by_cases hc1 : c < 128
        · have hstop := hat.stop h10 (by rw [WireP.blen]; exact hlt) (by rw [WireP.bget b k hlt]; exact hc) hc1
          by_cases h9 : k = 9 ∧ 1 < c
          · rw [if_pos h9] at hstop
            have HT := Lib.hid (WireP.takeV_of hstop)
            clear hstop
            obtain ⟨rfl, h91⟩ := h9
            go_wp2
            go_ret3
            exact ⟨by rw [HT.out]; rfl, Below.refl _ _⟩
          · rw [if_neg h9] at hstop
            have HJ := Lib.hid (WireP.add_shift m c k (hat.room h10 hc1 (by omega)))
            have hcm : (c : Int) % 128 = (c : Int) := by omega
            have HDR := Lib.hid (WireP.drop_str b (k + 1))
            have hk3 : (k : Int) + 1 ≤ (b.size : Int) := by omega
            by_cases h3 : c = 0 ∧ 0 < k
            · rw [if_pos h3] at hstop
              have HT := Lib.hid (WireP.takeV_of hstop)
              clear hstop
              obtain ⟨rfl, h31⟩ := h3
              by_cases hi9 : k = 9
              · subst hi9
                go_wp2
                go_ret3
                exact ⟨by rw [HT.out]; rfl, Below.refl _ _⟩
              · have g1 : ((k : Int) == 9) = false := by rw [beq_eq_false_iff_ne]; omega
                go_wp2
                go_ret3
                exact ⟨by rw [HT.out]; rfl, Below.refl _ _⟩
            · rw [if_neg h3] at hstop
              have HT := Lib.hid (WireP.takeV_of hstop)
              clear hstop
              have fin : ∀ (e : Ending) (W : World), e = .returned (.tuple #[.int .u64 (IntKind.u64.wrap ((m : Int) + IntKind.u64.wrap ((c : Int) * 2 ^ (7 * k)))), .string (b.extract (k + 1) b.size), .int .i64 0]) → Below wr.heap.size wr W →
                  e = .returned (WireP.takeV b.data.toList) ∧ Below wr.heap.size wr W := fun e W he hb => ⟨by rw [he, HT.out, HJ.out, HDR.out], hb⟩
              have FIN := Lib.hid fin
              clear fin
              by_cases hi9 : k = 9
              · have g1 : ((k : Int) == 9) = true := by rw [beq_iff_eq]; omega
                have g2 : decide ((1 : Int) < (c : Int)) = false := by rw [decide_eq_false_iff_not]; omega
                have g3 : ((c : Int) == 0) = false := by rw [beq_eq_false_iff_ne]; omega
                have HI := Lib.hid hi9
                clear hi9 h9 h3
                go_wp2
                go_quiet (fail)
                go_wp2
                go_ret3
                exact FIN.out _ _ rfl (bdrewN (Below.refl _ _) _)
              · have g1 : ((k : Int) == 9) = false := by rw [beq_eq_false_iff_ne]; omega
                by_cases hc0 : c = 0
                · have g3 : ((c : Int) == 0) = true := by rw [beq_iff_eq]; omega
                  have g4 : k ≤ 0 := by omega
                  have HI := Lib.hid hc0
                  clear hc0 hi9 h9 h3
                  go_wp2
                  go_quiet (fail)
                  go_wp2
                  go_ret3
                  exact FIN.out _ _ rfl (bdrewN (Below.refl _ _) _)
                · have g3 : ((c : Int) == 0) = false := by rw [beq_eq_false_iff_ne]; omega
                  clear hi9 h9 h3
                  go_wp2
                  go_quiet (fail)
                  go_wp2
                  go_ret3
                  exact FIN.out _ _ rfl (bdrewN (Below.refl _ _) _)
        · have HA : WireP.AtB b (m + c % 128 * 128 ^ k) (k + 1) := WireP.At0.step hat h10 (by rw [WireP.blen]; exact hlt) (by rw [WireP.bget b k hlt]; exact hc) hc1
          by_cases hi9 : k = 9
          · subst hi9
            have HT := Lib.hid (WireP.takeV_of (WireP.At0.full HA))
            go_wp2
            go_ret3
            exact ⟨by rw [HT.out]; rfl, Below.refl _ _⟩
          · have HJ := Lib.hid (WireP.add_shift m (c % 128) k (hat.room h10 (by omega) (by omega)))
            have g1 : ((k : Int) == 9) = false := by rw [beq_eq_false_iff_ne]; omega
            go_wp2
            go_roundw
            case rel => exact ⟨m + c % 128 * 128 ^ k, k + 1, _, rfl, by go_num, by omega, by omega, fun _ => HJ.out, HA, by first | trivial | rfl⟩
            case measure => simp [intOf]; omega
      · obtain rfl : k = b.size := by omega
        have HT := Lib.hid (WireP.takeV_of (hat.none h10 (by rw [WireP.blen])))
        go_wp2
        go_ret3
        exact ⟨by rw [HT.out]; rfl, Below.refl _ _⟩
    · obtain rfl : k = 10 := by omega
      have HT := Lib.hid (WireP.takeV_of hat.full)
      go_wp2
      go_ret3
      exact ⟨by rw [HT.out]; rfl, Below.refl _ _⟩

end Go.Proofs.YtfcffglgkblidaaDoor
