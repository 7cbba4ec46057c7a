/-
  The reference's Step: whatever the instruction is.
-/
import Derived.Test.YtfioeliejblboaaPv4
import Derived.Test.YtfioeliejblboaaPv5
import Derived.Test.YtfioeliejblboaaPv6
namespace Go.Proofs.Ytfioeliejblboaa
open Go.RowKit
set_option linter.unusedVariables false
set_option linter.unusedSimpArgs false

theorem rstep (bm g n : Nat) (ws : List Int) (b z r : Int) (ks : Option Addr) (kn kc : Nat) (f ag : Int) (code : List Int) (pc : Int) (R : List Int) (w0 w : World) (H : List Hp.Blk) (D : World → Prop) (sh : Hp.Sh w0 w ((g, (ints ws).toArray, 25) :: H) D) (hM : ∀ W, D W → RegP.MemIs bm g n W) (hn : n ≤ 1099511627776) (hws : ws.length = n) (hb : -9223372036854775808 ≤ b ∧ b ≤ 9223372036854775807) (hz : -9223372036854775808 ≤ z ∧ z ≤ 9223372036854775807) (hkn : kn = code.length) (hkc : kn ≤ kc) (hkl : kn ≤ 9223372036854775807) (hC : ∀ W, D W → Hp.RdV W ks (ints code)) (hpc : -9223372036854775808 ≤ pc ∧ pc ≤ 9223372036854775807) (hR : R.length = 8) (hr : ∀ i, i < 8 → 0 ≤ PvP.reg R i ∧ PvP.reg R i ≤ 4294967295) (hcode : ∀ c ∈ code, 0 ≤ c ∧ c ≤ 4294967295) :
    Calls Try.prog 12 #[.agg #[.int .i64 b, .int .i64 z, .int .i64 r, .slice ks kn kc, .int .i64 f, .int .i64 ag], .pointer (some ⟨bm, 0, none⟩), .agg (PvP.vmA (pc, R))] w fun e w' => PvP.StepP g (PvP.step code n b z ws (pc, R)) w0 H D e w' := by
  unfold PvP.step
  by_cases c1 : pc < 0 ∨ (code.length : Int) ≤ pc
  · rw [if_pos c1]
    by_cases c2 : pc < 0
    · exact rstep_neg bm g n ws b z r ks kn kc f ag code pc R w0 w H D sh hM hn hws hb hz hkn hkc hkl hC hpc hR hr c2
    · exact rstep_far bm g n ws b z r ks kn kc f ag code pc R w0 w H D sh hM hn hws hb hz hkn hkc hkl hC hpc hR hr c2 (by omega)
  · obtain ⟨k, hpk⟩ : ∃ k : Nat, pc = k := ⟨pc.toNat, by omega⟩
    have hk : k < code.length := by omega
    have hzr := hcode _ (List.getElem_mem hk)
    have hgd : code.getD pc.toNat 0 = code[k] := by rw [hpk, Int.toNat_natCast, List.getD_eq_getElem?_getD, List.getElem?_eq_getElem hk]; rfl
    rw [if_neg c1]
    dsimp only
    rw [hgd]
    obtain ⟨⟨⟨op, a, b2, N⟩, er⟩, hg⟩ : ∃ y, InsP.get code[k] = y := ⟨_, rfl⟩
    rw [hg]
    dsimp only
    subst hpk
    by_cases he : er ≠ 0
    · rw [if_pos he]
      exact rstep_bad bm g n ws b z r ks kn kc f ag code k R w0 w H D sh hM hn hws hb hz hkn hkc hkl hC hpc hR hr k rfl hk _ rfl hzr op a b2 N er hg he
    · rw [if_neg he]
      obtain rfl : er = 0 := by omega
      obtain ⟨o1, o2, a1, a2, b1, b3, n1, n2⟩ := PvP.get_ok hg
      obtain ⟨A, rfl⟩ : ∃ A : Nat, a = A := ⟨a.toNat, by omega⟩
      obtain ⟨B, rfl⟩ : ∃ B : Nat, b2 = B := ⟨b2.toNat, by omega⟩
      rw [Int.toNat_natCast, Int.toNat_natCast]
      have hA : A < 8 := by omega
      have hB : B < 8 := by omega
      have hN : 0 ≤ N ∧ N ≤ 65535 := ⟨n1, n2⟩
      by_cases h6 : op = 6
      · rw [if_pos h6]
        by_cases hc : RegP.pc n b z (PvP.reg R B + N) 1 = 0
        · rw [if_pos hc]; exact rstep_get bm g n ws b z r ks kn kc f ag code k R w0 w H D sh hM hn hws hb hz hkn hkc hkl hC hpc hR hr k rfl hk _ rfl hzr op A B N hg hA hB hN h6 hc
        · rw [if_neg hc]; exact rstep_getno bm g n ws b z r ks kn kc f ag code k R w0 w H D sh hM hn hws hb hz hkn hkc hkl hC hpc hR hr k rfl hk _ rfl hzr op A B N hg hA hB hN h6 hc
      rw [if_neg h6]
      by_cases h7 : op = 7
      · rw [if_pos h7]
        by_cases hc : RegP.pc n b z (PvP.reg R B + N) 1 = 0
        · rw [if_pos hc]; exact rstep_set bm g n ws b z r ks kn kc f ag code k R w0 w H D sh hM hn hws hb hz hkn hkc hkl hC hpc hR hr k rfl hk _ rfl hzr op A B N hg hA hB hN h7 hc
        · rw [if_neg hc]; exact rstep_setno bm g n ws b z r ks kn kc f ag code k R w0 w H D sh hM hn hws hb hz hkn hkc hkl hC hpc hR hr k rfl hk _ rfl hzr op A B N hg hA hB hN h7 hc
      rw [if_neg h7]
      by_cases h11 : op = 11
      · rw [if_pos h11]; exact rstep_call bm g n ws b z r ks kn kc f ag code k R w0 w H D sh hM hn hws hb hz hkn hkc hkl hC hpc hR hr k rfl hk _ rfl hzr op A B N hg hA hB hN h11
      rw [if_neg h11]
      by_cases h12 : op = 12
      · rw [if_pos h12]; exact rstep_op12 bm g n ws b z r ks kn kc f ag code k R w0 w H D sh hM hn hws hb hz hkn hkc hkl hC hpc hR hr k rfl hk _ rfl hzr op A B N hg hA hB hN h12
      rw [if_neg h12]
      by_cases h13 : op = 13
      · rw [if_pos h13]; exact rstep_op13 bm g n ws b z r ks kn kc f ag code k R w0 w H D sh hM hn hws hb hz hkn hkc hkl hC hpc hR hr k rfl hk _ rfl hzr op A B N hg hA hB hN h13
      rw [if_neg h13]
      unfold PvP.reck
      dsimp only
      rw [Int.toNat_natCast, Int.toNat_natCast]
      by_cases h1 : op = 1
      · rw [if_pos h1]; exact rstep_r1 bm g n ws b z r ks kn kc f ag code k R w0 w H D sh hM hn hws hb hz hkn hkc hkl hC hpc hR hr k rfl hk _ rfl hzr op A B N hg hA hB hN h1
      by_cases h2 : op = 2
      · rw [if_neg h1, if_pos h2]; exact rstep_r2 bm g n ws b z r ks kn kc f ag code k R w0 w H D sh hM hn hws hb hz hkn hkc hkl hC hpc hR hr k rfl hk _ rfl hzr op A B N hg hA hB hN h2
      by_cases h3 : op = 3
      · rw [if_neg h1, if_neg h2, if_pos h3]; exact rstep_r3 bm g n ws b z r ks kn kc f ag code k R w0 w H D sh hM hn hws hb hz hkn hkc hkl hC hpc hR hr k rfl hk _ rfl hzr op A B N hg hA hB hN h3
      by_cases h4 : op = 4
      · rw [if_neg h1, if_neg h2, if_neg h3, if_pos h4]; exact rstep_r4 bm g n ws b z r ks kn kc f ag code k R w0 w H D sh hM hn hws hb hz hkn hkc hkl hC hpc hR hr k rfl hk _ rfl hzr op A B N hg hA hB hN h4
      by_cases h5 : op = 5
      · rw [if_neg h1, if_neg h2, if_neg h3, if_neg h4, if_pos h5]; exact rstep_r5 bm g n ws b z r ks kn kc f ag code k R w0 w H D sh hM hn hws hb hz hkn hkc hkl hC hpc hR hr k rfl hk _ rfl hzr op A B N hg hA hB hN h5
      by_cases h8 : op = 8
      · rw [if_neg h1, if_neg h2, if_neg h3, if_neg h4, if_neg h5, if_pos h8]; exact rstep_r8 bm g n ws b z r ks kn kc f ag code k R w0 w H D sh hM hn hws hb hz hkn hkc hkl hC hpc hR hr k rfl hk _ rfl hzr op A B N hg hA hB hN h8
      by_cases h9 : op = 9
      · rw [if_neg h1, if_neg h2, if_neg h3, if_neg h4, if_neg h5, if_neg h8, if_pos h9]
        by_cases hz0 : PvP.reg R A = 0
        · rw [if_pos hz0]; exact rstep_r9y bm g n ws b z r ks kn kc f ag code k R w0 w H D sh hM hn hws hb hz hkn hkc hkl hC hpc hR hr k rfl hk _ rfl hzr op A B N hg hA hB hN h9 hz0
        · rw [if_neg hz0]; exact rstep_r9n bm g n ws b z r ks kn kc f ag code k R w0 w H D sh hM hn hws hb hz hkn hkc hkl hC hpc hR hr k rfl hk _ rfl hzr op A B N hg hA hB hN h9 hz0
      by_cases h10 : op = 10
      · rw [if_neg h1, if_neg h2, if_neg h3, if_neg h4, if_neg h5, if_neg h8, if_neg h9, if_pos h10]
        by_cases hz0 : PvP.reg R A < PvP.reg R B
        · rw [if_pos hz0]; exact rstep_r10y bm g n ws b z r ks kn kc f ag code k R w0 w H D sh hM hn hws hb hz hkn hkc hkl hC hpc hR hr k rfl hk _ rfl hzr op A B N hg hA hB hN h10 hz0
        · rw [if_neg hz0]; exact rstep_r10n bm g n ws b z r ks kn kc f ag code k R w0 w H D sh hM hn hws hb hz hkn hkc hkl hC hpc hR hr k rfl hk _ rfl hzr op A B N hg hA hB hN h10 hz0
      rw [if_neg h1, if_neg h2, if_neg h3, if_neg h4, if_neg h5, if_neg h8, if_neg h9, if_neg h10]
      exact rstep_r0 bm g n ws b z r ks kn kc f ag code k R w0 w H D sh hM hn hws hb hz hkn hkc hkl hC hpc hR hr k rfl hk _ rfl hzr op A B N hg hA hB hN (by omega)

end Go.Proofs.Ytfioeliejblboaa