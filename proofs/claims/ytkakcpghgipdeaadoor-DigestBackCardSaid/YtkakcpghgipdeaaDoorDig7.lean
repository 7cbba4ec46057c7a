/-
  The walks of Read, the program's and the reference's.
-/
import Derived.Test.YtkakcpghgipdeaaDoorDigAr
import Derived.Test.YtkakcpghgipdeaaDoorDigPlain2
namespace Go.Proofs.YtkakcpghgipdeaaDoor
open Go.RowKit
set_option linter.unusedVariables false
set_option linter.unusedSimpArgs false

namespace DigP
def zero32 : List UInt8 := List.replicate 32 0
/-- A sign's number as the texts tell it; -1: it is none. -/
def valI (c : UInt8) : Int := if val c < 16 then (val c : Int) else -1
def signs : List UInt8 := [48, 49, 50, 51, 52, 53, 54, 55, 56, 57, 97, 98, 99, 100, 101, 102]
theorem valI_index (c : UInt8) : Lib.indexByte signs c = valI c := by
  have key : ∀ n : Fin 256, Lib.indexByte signs (UInt8.ofNat n.val) = valI (UInt8.ofNat n.val) := by decide +kernel
  have hc := c.toNat_lt
  have := key ⟨c.toNat, by omega⟩
  simpa only [UInt8.ofNat_toNat] using this
theorem valI_good {c : UInt8} (h : val c < 16) : valI c = (val c : Int) := if_pos h
theorem valI_bad {c : UInt8} (h : ¬ val c < 16) : valI c = -1 := if_neg h
def readD (s : List UInt8) : List UInt8 := (read s).getD zero32
def readE (s : List UInt8) : Int := if (read s).isSome then 0 else 3
theorem read_short {s : List UInt8} (h : s.length ≠ 64) : readD s = zero32 ∧ readE s = 3 := by
  have : read s = none := by unfold read; rw [if_neg (fun q => h q.1)]
  unfold readD readE; rw [this]; exact ⟨rfl, rfl⟩
theorem read_bad {s : List UInt8} {k : Nat} (h : k < s.length) (hv : ¬ val (s.getD k 0) < 16) : readD s = zero32 ∧ readE s = 3 := by
  have : read s = none := by
    unfold read
    rw [if_neg (fun q => hv ((good_iff s).1 q.2 k h))]
  unfold readD readE; rw [this]; exact ⟨rfl, rfl⟩
theorem read_good {s : List UInt8} (h : s.length = 64) (hv : ∀ i, i < 64 → val (s.getD i 0) < 16) : readD s = part s 64 ∧ readE s = 0 := by
  have : read s = some (part s 64) := by unfold read; rw [if_pos ⟨h, (good_iff s).2 (by rw [h]; exact hv)⟩]
  unfold readD readE; rw [this]; exact ⟨rfl, rfl⟩
theorem part_two (s : List UInt8) (i : Nat) (h : i < 32) (h0 : val (s.getD (2 * i) 0) < 16) (h1 : val (s.getD (2 * i + 1) 0) < 16) (hp : ∀ j, j < 2 * i → val (s.getD j 0) < 16) :
    part s (2 * (i + 1)) = (part s (2 * i)).set i (UInt8.ofNat (16 * val (s.getD (2 * i) 0) + val (s.getD (2 * i + 1) 0))) := by
  have e1 := part_next s (2 * i) (by omega) h0 hp
  have e2 := part_next s (2 * i + 1) (by omega) h1 (fun j hj => by
    by_cases q : j = 2 * i
    · rw [q]; exact h0
    · exact hp j (by omega))
  rw [show 2 * (i + 1) = 2 * i + 1 + 1 by omega, e2, show (2 * i + 1) / 2 = i by omega, part_get s (2 * i + 1) i h, if_neg (by omega), if_pos (by omega), toNat_of (by omega), e1, show 2 * i / 2 = i by omega, List.set_set]
  congr 2
  omega
theorem or8 {x n : Nat} (hn : n < 16) : bits .or .u8 ((x * 16 % 256 : Nat) : Int) (n : Int) = ((UInt8.ofNat (x * 16 % 256 + n)).toNat : Int) := by
  have h1 : x * 16 % 256 = 2 ^ 4 * (x % 16) := by omega
  have h2 : x * 16 % 256 ||| n = x * 16 % 256 + n := by rw [h1, ← Nat.two_pow_add_eq_or_of_lt (i := 4) (by omega)]
  show IntKind.u8.wrap ((BitVec.ofInt 8 ((x * 16 % 256 : Nat) : Int) ||| BitVec.ofInt 8 (n : Int)).toNat : Int) = _
  rw [BitVec.ofInt_natCast, BitVec.ofInt_natCast, BitVec.toNat_or, BitVec.toNat_ofNat, BitVec.toNat_ofNat, Nat.mod_eq_of_lt (show x * 16 % 256 < 2 ^ 8 by omega), Nat.mod_eq_of_lt (show n < 2 ^ 8 by omega), h2, toNat_of (by omega)]
  simp [IntKind.wrap, IntKind.bits, IntKind.signed]
  omega
theorem ret2 {a b : List UInt8} {c d : Int} (h : a = b ∧ c = d) : Ending.returned (.tuple #[.agg (bA a), .int .i64 c]) = .returned (.tuple #[.agg (bA b), .int .i64 d]) := by rw [h.1, h.2]
end DigP

theorem Tryd.z_dig (W : World) : (zeroValue 23).run Tryd.prog W = .ok (.agg (DigP.bA DigP.zero32)) W := by kernel_rfl
theorem Tryd.s_dig : (Tryd.prog.info? 23).map (·.size) = some 32 := by kernel_rfl
set_option maxHeartbeats 4000000 in
set_option maxRecDepth 100000 in
theorem drval (c : UInt8) (w : World) : Calls Tryd.prog 17 #[.int .u8 (c.toNat : Int)] w fun e w' => e = .returned (.int .i64 (DigP.valI c)) ∧ Below w.heap.size w w' := by
  have sh : Hp.Sh w w [] (fun _ => True) := Hp.Sh.start (fun _ _ => trivial)
  have hc := c.toNat_lt
  have HV := Lib.hid (show DigP.valI c = if 48 ≤ c.toNat ∧ c.toNat ≤ 57 then (c.toNat : Int) - 48 else if 97 ≤ c.toNat ∧ c.toNat ≤ 102 then (c.toNat : Int) - 97 + 10 else -1 by
    unfold DigP.valI DigP.val
    by_cases h1 : 48 ≤ c.toNat ∧ c.toNat ≤ 57
    · rw [if_pos h1, if_pos h1, if_pos (by omega)]; omega
    · rw [if_neg h1, if_neg h1]
      by_cases h2 : 97 ≤ c.toNat ∧ c.toNat ≤ 102
      · rw [if_pos h2, if_pos h2, if_pos (by omega)]; omega
      · rw [if_neg h2, if_neg h2, if_neg (by omega)])
  generalize DigP.valI c = v at HV ⊢
  generalize c.toNat = n at hc HV ⊢
  have hn0 : (0 : Int) ≤ (n : Int) := by omega
  have hn1 : (n : Int) ≤ 255 := by omega
  by_cases h1 : (48 : Int) ≤ (n : Int)
  · by_cases h2 : (n : Int) ≤ 57
    · go_enter Tryd.func17, Tryd.ntmps17
      go_wp2_with (first
          | ((with_reducible refine Hp.wpl_box sh ?_ ?_); exact rfl; clear sh; (try clear F); go_simp; intro b w1 sh; have F := sh.facts; (try simp only [Hp.Facts, Hp.CellsAt, Nat.reduceAdd, List.cons_append, List.nil_append] at F))
          | ((with_reducible refine Hp.wpl_alloc Tryd.z_dig sh ?_ ?_); exact rfl; clear sh; (try clear F); go_simp; intro b w1 sh; have F := sh.facts; (try simp only [Hp.Facts, Hp.CellsAt, Nat.reduceAdd, List.cons_append, List.nil_append] at F))
          | ((with_reducible refine Hp.atl_store ?_ ?_); exact rfl; (first | refine Hp.wp_store 0 sh rfl rfl rfl rfl (by kernel_rfl) (Nat.le_of_ble_eq_true rfl) rfl ?_ | refine Hp.wp_store 1 sh rfl rfl rfl rfl (by kernel_rfl) (Nat.le_of_ble_eq_true rfl) rfl ?_ | refine Hp.wp_store 2 sh rfl rfl rfl rfl (by kernel_rfl) (Nat.le_of_ble_eq_true rfl) rfl ?_ | refine Hp.wp_store 3 sh rfl rfl rfl rfl (by kernel_rfl) (Nat.le_of_ble_eq_true rfl) rfl ?_ | refine Hp.wp_store 4 sh rfl rfl rfl rfl (by kernel_rfl) (Nat.le_of_ble_eq_true rfl) rfl ?_ | refine Hp.wp_store 5 sh rfl rfl rfl rfl (by kernel_rfl) (Nat.le_of_ble_eq_true rfl) rfl ?_ | refine Hp.wp_store 6 sh rfl rfl rfl rfl (by kernel_rfl) (Nat.le_of_ble_eq_true rfl) rfl ?_); clear sh; (try clear F); go_simp; intro w1 sh; have F := sh.facts; (try simp only [Hp.Facts, Hp.CellsAt, Nat.reduceAdd, List.cons_append, List.nil_append] at F))
          | fail)
      go_ret
      exact ⟨ret_i64 (by rw [HV.out, if_pos (by omega)]), sh.below⟩
    · by_cases h3 : (97 : Int) ≤ (n : Int)
      · by_cases h4 : (n : Int) ≤ 102
        · go_enter Tryd.func17, Tryd.ntmps17
          go_wp2_with (first
              | ((with_reducible refine Hp.wpl_box sh ?_ ?_); exact rfl; clear sh; (try clear F); go_simp; intro b w1 sh; have F := sh.facts; (try simp only [Hp.Facts, Hp.CellsAt, Nat.reduceAdd, List.cons_append, List.nil_append] at F))
              | ((with_reducible refine Hp.wpl_alloc Tryd.z_dig sh ?_ ?_); exact rfl; clear sh; (try clear F); go_simp; intro b w1 sh; have F := sh.facts; (try simp only [Hp.Facts, Hp.CellsAt, Nat.reduceAdd, List.cons_append, List.nil_append] at F))
              | ((with_reducible refine Hp.atl_store ?_ ?_); exact rfl; (first | refine Hp.wp_store 0 sh rfl rfl rfl rfl (by kernel_rfl) (Nat.le_of_ble_eq_true rfl) rfl ?_ | refine Hp.wp_store 1 sh rfl rfl rfl rfl (by kernel_rfl) (Nat.le_of_ble_eq_true rfl) rfl ?_ | refine Hp.wp_store 2 sh rfl rfl rfl rfl (by kernel_rfl) (Nat.le_of_ble_eq_true rfl) rfl ?_ | refine Hp.wp_store 3 sh rfl rfl rfl rfl (by kernel_rfl) (Nat.le_of_ble_eq_true rfl) rfl ?_ | refine Hp.wp_store 4 sh rfl rfl rfl rfl (by kernel_rfl) (Nat.le_of_ble_eq_true rfl) rfl ?_ | refine Hp.wp_store 5 sh rfl rfl rfl rfl (by kernel_rfl) (Nat.le_of_ble_eq_true rfl) rfl ?_ | refine Hp.wp_store 6 sh rfl rfl rfl rfl (by kernel_rfl) (Nat.le_of_ble_eq_true rfl) rfl ?_); clear sh; (try clear F); go_simp; intro w1 sh; have F := sh.facts; (try simp only [Hp.Facts, Hp.CellsAt, Nat.reduceAdd, List.cons_append, List.nil_append] at F))
              | fail)
          go_ret
          exact ⟨ret_i64 (by rw [HV.out, if_neg (by omega), if_pos (by omega)]), sh.below⟩
        · go_enter Tryd.func17, Tryd.ntmps17
          go_wp2_with (first
              | ((with_reducible refine Hp.wpl_box sh ?_ ?_); exact rfl; clear sh; (try clear F); go_simp; intro b w1 sh; have F := sh.facts; (try simp only [Hp.Facts, Hp.CellsAt, Nat.reduceAdd, List.cons_append, List.nil_append] at F))
              | ((with_reducible refine Hp.wpl_alloc Tryd.z_dig sh ?_ ?_); exact rfl; clear sh; (try clear F); go_simp; intro b w1 sh; have F := sh.facts; (try simp only [Hp.Facts, Hp.CellsAt, Nat.reduceAdd, List.cons_append, List.nil_append] at F))
              | ((with_reducible refine Hp.atl_store ?_ ?_); exact rfl; (first | refine Hp.wp_store 0 sh rfl rfl rfl rfl (by kernel_rfl) (Nat.le_of_ble_eq_true rfl) rfl ?_ | refine Hp.wp_store 1 sh rfl rfl rfl rfl (by kernel_rfl) (Nat.le_of_ble_eq_true rfl) rfl ?_ | refine Hp.wp_store 2 sh rfl rfl rfl rfl (by kernel_rfl) (Nat.le_of_ble_eq_true rfl) rfl ?_ | refine Hp.wp_store 3 sh rfl rfl rfl rfl (by kernel_rfl) (Nat.le_of_ble_eq_true rfl) rfl ?_ | refine Hp.wp_store 4 sh rfl rfl rfl rfl (by kernel_rfl) (Nat.le_of_ble_eq_true rfl) rfl ?_ | refine Hp.wp_store 5 sh rfl rfl rfl rfl (by kernel_rfl) (Nat.le_of_ble_eq_true rfl) rfl ?_ | refine Hp.wp_store 6 sh rfl rfl rfl rfl (by kernel_rfl) (Nat.le_of_ble_eq_true rfl) rfl ?_); clear sh; (try clear F); go_simp; intro w1 sh; have F := sh.facts; (try simp only [Hp.Facts, Hp.CellsAt, Nat.reduceAdd, List.cons_append, List.nil_append] at F))
              | fail)
          go_ret
          exact ⟨ret_i64 (by rw [HV.out, if_neg (by omega), if_neg (by omega)]), sh.below⟩
      · go_enter Tryd.func17, Tryd.ntmps17
        go_wp2_with (first
            | ((with_reducible refine Hp.wpl_box sh ?_ ?_); exact rfl; clear sh; (try clear F); go_simp; intro b w1 sh; have F := sh.facts; (try simp only [Hp.Facts, Hp.CellsAt, Nat.reduceAdd, List.cons_append, List.nil_append] at F))
            | ((with_reducible refine Hp.wpl_alloc Tryd.z_dig sh ?_ ?_); exact rfl; clear sh; (try clear F); go_simp; intro b w1 sh; have F := sh.facts; (try simp only [Hp.Facts, Hp.CellsAt, Nat.reduceAdd, List.cons_append, List.nil_append] at F))
            | ((with_reducible refine Hp.atl_store ?_ ?_); exact rfl; (first | refine Hp.wp_store 0 sh rfl rfl rfl rfl (by kernel_rfl) (Nat.le_of_ble_eq_true rfl) rfl ?_ | refine Hp.wp_store 1 sh rfl rfl rfl rfl (by kernel_rfl) (Nat.le_of_ble_eq_true rfl) rfl ?_ | refine Hp.wp_store 2 sh rfl rfl rfl rfl (by kernel_rfl) (Nat.le_of_ble_eq_true rfl) rfl ?_ | refine Hp.wp_store 3 sh rfl rfl rfl rfl (by kernel_rfl) (Nat.le_of_ble_eq_true rfl) rfl ?_ | refine Hp.wp_store 4 sh rfl rfl rfl rfl (by kernel_rfl) (Nat.le_of_ble_eq_true rfl) rfl ?_ | refine Hp.wp_store 5 sh rfl rfl rfl rfl (by kernel_rfl) (Nat.le_of_ble_eq_true rfl) rfl ?_ | refine Hp.wp_store 6 sh rfl rfl rfl rfl (by kernel_rfl) (Nat.le_of_ble_eq_true rfl) rfl ?_); clear sh; (try clear F); go_simp; intro w1 sh; have F := sh.facts; (try simp only [Hp.Facts, Hp.CellsAt, Nat.reduceAdd, List.cons_append, List.nil_append] at F))
            | fail)
        go_ret
        exact ⟨ret_i64 (by rw [HV.out, if_neg (by omega), if_neg (by omega)]), sh.below⟩
  · have h3 : ¬ (97 : Int) ≤ (n : Int) := by omega
    go_enter Tryd.func17, Tryd.ntmps17
    go_wp2_with (first
        | ((with_reducible refine Hp.wpl_box sh ?_ ?_); exact rfl; clear sh; (try clear F); go_simp; intro b w1 sh; have F := sh.facts; (try simp only [Hp.Facts, Hp.CellsAt, Nat.reduceAdd, List.cons_append, List.nil_append] at F))
        | ((with_reducible refine Hp.wpl_alloc Tryd.z_dig sh ?_ ?_); exact rfl; clear sh; (try clear F); go_simp; intro b w1 sh; have F := sh.facts; (try simp only [Hp.Facts, Hp.CellsAt, Nat.reduceAdd, List.cons_append, List.nil_append] at F))
        | ((with_reducible refine Hp.atl_store ?_ ?_); exact rfl; (first | refine Hp.wp_store 0 sh rfl rfl rfl rfl (by kernel_rfl) (Nat.le_of_ble_eq_true rfl) rfl ?_ | refine Hp.wp_store 1 sh rfl rfl rfl rfl (by kernel_rfl) (Nat.le_of_ble_eq_true rfl) rfl ?_ | refine Hp.wp_store 2 sh rfl rfl rfl rfl (by kernel_rfl) (Nat.le_of_ble_eq_true rfl) rfl ?_ | refine Hp.wp_store 3 sh rfl rfl rfl rfl (by kernel_rfl) (Nat.le_of_ble_eq_true rfl) rfl ?_ | refine Hp.wp_store 4 sh rfl rfl rfl rfl (by kernel_rfl) (Nat.le_of_ble_eq_true rfl) rfl ?_ | refine Hp.wp_store 5 sh rfl rfl rfl rfl (by kernel_rfl) (Nat.le_of_ble_eq_true rfl) rfl ?_ | refine Hp.wp_store 6 sh rfl rfl rfl rfl (by kernel_rfl) (Nat.le_of_ble_eq_true rfl) rfl ?_); clear sh; (try clear F); go_simp; intro w1 sh; have F := sh.facts; (try simp only [Hp.Facts, Hp.CellsAt, Nat.reduceAdd, List.cons_append, List.nil_append] at F))
        | fail)
    go_ret
    exact ⟨ret_i64 (by rw [HV.out, if_neg (by omega), if_neg (by omega)]), sh.below⟩

def DigP.ReadP (s : List UInt8) (w : World) (e : Ending) (w' : World) : Prop := e = .returned (.tuple #[.agg (DigP.bA (DigP.readD s)), .int .i64 (DigP.readE s)]) ∧ Below w.heap.size w w'
set_option maxHeartbeats 8000000 in
set_option maxRecDepth 100000 in
theorem dread (s : List UInt8) (w : World) (hm : s.length ≤ 9223372036854775807) : Calls Tryd.prog 6 #[.string (bstr s)] w fun e w' => DigP.ReadP s w e w' := by
  have sh : Hp.Sh w w [] (fun _ => True) := Hp.Sh.start (fun _ _ => trivial)
  have hs : (bstr s).size = s.length := bstr_size s
  by_cases hl : s.length = 64
  · have KI := Lib.hid (fun W c => (by have := dindex (bstr DigP.signs) (c.toNat : Int) W; simp only [bstr_data, Int.toNat_natCast, Nat.toUInt8_eq, UInt8.ofNat_toNat, DigP.valI_index] at this; exact this : Calls Tryd.prog 16 #[.string (bstr DigP.signs), .int .u8 (c.toNat : Int)] W fun e w' => e = .returned (.int .i64 (DigP.valI c)) ∧ w' = W))
    have HL := Lib.hid hl
    rw [hl] at hs
    clear hl
    go_enter Tryd.func6, Tryd.ntmps6
    have tok_br : True := trivial
    have tok_bd : True := trivial
    go_wp2_with (first
        | ((have tok := tok_br); clear tok tok_br; (first | (with_reducible refine Hp.wpl_box sh ?_ ?_) | (with_reducible refine Hp.wpl_alloc Tryd.z_dig sh ?_ ?_)); exact rfl; clear sh; (try clear F); go_simp; intro br w1 sh; have F := sh.facts; (try simp only [Hp.Facts, Hp.CellsAt, Nat.reduceAdd, List.cons_append, List.nil_append] at F))
        | ((have tok := tok_bd); clear tok tok_bd; (first | (with_reducible refine Hp.wpl_box sh ?_ ?_) | (with_reducible refine Hp.wpl_alloc Tryd.z_dig sh ?_ ?_)); exact rfl; clear sh; (try clear F); go_simp; intro bd w1 sh; have F := sh.facts; (try simp only [Hp.Facts, Hp.CellsAt, Nat.reduceAdd, List.cons_append, List.nil_append] at F))
        | ((with_reducible refine Hp.wpl_box sh ?_ ?_); exact rfl; clear sh; (try clear F); go_simp; intro b w1 sh; have F := sh.facts; (try simp only [Hp.Facts, Hp.CellsAt, Nat.reduceAdd, List.cons_append, List.nil_append] at F))
        | ((with_reducible refine Hp.wpl_alloc Tryd.z_dig sh ?_ ?_); exact rfl; clear sh; (try clear F); go_simp; intro b w1 sh; have F := sh.facts; (try simp only [Hp.Facts, Hp.CellsAt, Nat.reduceAdd, List.cons_append, List.nil_append] at F))
        | ((with_reducible refine Hp.atl_store ?_ ?_); exact rfl; (first | refine Hp.wp_store 0 sh rfl rfl rfl rfl (by kernel_rfl) (Nat.le_of_ble_eq_true rfl) rfl ?_ | refine Hp.wp_store 1 sh rfl rfl rfl rfl (by kernel_rfl) (Nat.le_of_ble_eq_true rfl) rfl ?_ | refine Hp.wp_store 2 sh rfl rfl rfl rfl (by kernel_rfl) (Nat.le_of_ble_eq_true rfl) rfl ?_ | refine Hp.wp_store 3 sh rfl rfl rfl rfl (by kernel_rfl) (Nat.le_of_ble_eq_true rfl) rfl ?_ | refine Hp.wp_store 4 sh rfl rfl rfl rfl (by kernel_rfl) (Nat.le_of_ble_eq_true rfl) rfl ?_ | refine Hp.wp_store 5 sh rfl rfl rfl rfl (by kernel_rfl) (Nat.le_of_ble_eq_true rfl) rfl ?_ | refine Hp.wp_store 6 sh rfl rfl rfl rfl (by kernel_rfl) (Nat.le_of_ble_eq_true rfl) rfl ?_); clear sh; (try clear F); go_simp; intro w1 sh; have F := sh.facts; (try simp only [Hp.Facts, Hp.CellsAt, Nat.reduceAdd, List.cons_append, List.nil_append] at F))
        | fail)
    go_loopw [13] (fun i wr => ∃ k : Nat, i = .int .i64 k ∧ k ≤ 64 ∧ Hid (∀ j, j < k → DigP.val (s.getD j 0) < 16) ∧ Hp.Sh w wr [(bd, DigP.bA (DigP.part s k), 23), (br, DigP.bA DigP.zero32, 23)] (fun _ => True)) (fun i _ => 64 - (intOf i).toNat)
    case atStart => exact ⟨0, rfl, by omega, fun j hj => by omega, by rw [DigP.part_zero]; exact sh⟩
    case round =>
      clear sh F
      obtain ⟨k, rfl, hk, HG, sh⟩ := hrel
      by_cases hlt : k < 64
      · have hlI : (k : Int) < 64 := by omega
        have hx := DigP.bget s k (by rw [hs]; omega)
        have HV0 := Lib.hid (show DigP.val (s.getD k 0) < 16 → DigP.part s (k + 1) = (DigP.part s k).set (k / 2) (UInt8.ofNat (((DigP.part s k).getD (k / 2) 0).toNat * 16 % 256 + DigP.val (s.getD k 0))) from fun q => DigP.part_next s k hlt q HG.out)
        have HB := Lib.hid (show ¬ DigP.val (s.getD k 0) < 16 → _ from fun q => DigP.read_bad (s := s) (k := k) (by rw [HL.out]; exact hlt) q)
        have HS0 := Lib.hid (show DigP.val (s.getD k 0) < 16 → ∀ j, j < k + 1 → DigP.val (s.getD j 0) < 16 from fun q j hj => by
          by_cases e : j = k
          · rw [e]; exact q
          · exact HG.out j (by omega))
        generalize s.getD k 0 = c at hx HV0 HB HS0
        have KC := Lib.hid (fun W => KI.out W c)
        by_cases hv : DigP.val c < 16
        · rw [DigP.valI_good hv] at KC
          have HV := Lib.hid (HV0.out hv)
          have HS := Lib.hid (HS0.out hv)
          have hw := Hp.Sh.at sh (i := 0) rfl (j := k / 2) (DigP.bA_get (by rw [DigP.part_length]; omega))
          generalize (DigP.part s k).getD (k / 2) 0 = x at HV hw
          have O := DigP.or8 (x := x.toNat) hv
          have f1 : IntKind.u8.wrap ((x.toNat : Int) * 16) = ((x.toNat * 16 % 256 : Nat) : Int) := by simp [IntKind.wrap, IntKind.bits, IntKind.signed]
          have f2 : (x.toNat : Int) * 16 % 256 = ((x.toNat * 16 % 256 : Nat) : Int) := by omega
          have f3 : IntKind.u8.wrap (DigP.val c : Int) = (DigP.val c : Int) := by simp [IntKind.wrap, IntKind.bits, IntKind.signed]; omega
          generalize DigP.val c = m at KC HV O f3 hv
          generalize UInt8.ofNat (x.toNat * 16 % 256 + m) = r at O HV
          generalize x.toNat * 16 % 256 = z at O f1 f2
          have g1 : (k : Int) / 2 = ((k / 2 : Nat) : Int) := by omega
          have g2 : k / 2 < 32 := by omega
          have g3 : ((k / 2 : Nat) : Int) < 32 := by omega
          have g4 : ¬ (m : Int) < 0 := by omega
          have hsz : k / 2 + 1 ≤ (DigP.bA (DigP.part s k)).size := by rw [DigP.bA_size, DigP.part_length]; omega
          have HP := Lib.hid (show (DigP.bA (DigP.part s k)).setIfInBounds (k / 2) (.int .u8 (r.toNat : Int)) = DigP.bA (DigP.part s (k + 1)) by rw [DigP.bA_set, HV.out])
          generalize k / 2 = d at *
          clear HV HV0 HB HS0
          have F := sh.facts; (try simp only [Hp.Facts, Hp.CellsAt, Nat.reduceAdd, List.cons_append, List.nil_append] at F)
          go_wp2_with fail
          go_fit (KC.out _)
          rintro e w1 ⟨rfl, rfl⟩
          go_wp2_with (first
              | ((with_reducible refine Hp.atl_store ?_ ?_); exact rfl; (refine Hp.wp_store 0 sh rfl rfl rfl rfl (by kernel_rfl) (hsz) rfl ?_); clear sh; (try clear F); go_simp; intro w1 sh; rw [HP.out] at sh; have F := sh.facts; (try simp only [Hp.Facts, Hp.CellsAt, Nat.reduceAdd, List.cons_append, List.nil_append] at F))
              | ((with_reducible refine Hp.wpl_box sh ?_ ?_); exact rfl; clear sh; (try clear F); go_simp; intro b w1 sh; have F := sh.facts; (try simp only [Hp.Facts, Hp.CellsAt, Nat.reduceAdd, List.cons_append, List.nil_append] at F))
              | ((with_reducible refine Hp.wpl_alloc Tryd.z_dig sh ?_ ?_); exact rfl; clear sh; (try clear F); go_simp; intro b w1 sh; have F := sh.facts; (try simp only [Hp.Facts, Hp.CellsAt, Nat.reduceAdd, List.cons_append, List.nil_append] at F))
              | ((with_reducible refine Hp.atl_store ?_ ?_); exact rfl; (first | refine Hp.wp_store 0 sh rfl rfl rfl rfl (by kernel_rfl) (Nat.le_of_ble_eq_true rfl) rfl ?_ | refine Hp.wp_store 1 sh rfl rfl rfl rfl (by kernel_rfl) (Nat.le_of_ble_eq_true rfl) rfl ?_ | refine Hp.wp_store 2 sh rfl rfl rfl rfl (by kernel_rfl) (Nat.le_of_ble_eq_true rfl) rfl ?_ | refine Hp.wp_store 3 sh rfl rfl rfl rfl (by kernel_rfl) (Nat.le_of_ble_eq_true rfl) rfl ?_ | refine Hp.wp_store 4 sh rfl rfl rfl rfl (by kernel_rfl) (Nat.le_of_ble_eq_true rfl) rfl ?_ | refine Hp.wp_store 5 sh rfl rfl rfl rfl (by kernel_rfl) (Nat.le_of_ble_eq_true rfl) rfl ?_ | refine Hp.wp_store 6 sh rfl rfl rfl rfl (by kernel_rfl) (Nat.le_of_ble_eq_true rfl) rfl ?_); clear sh; (try clear F); go_simp; intro w1 sh; have F := sh.facts; (try simp only [Hp.Facts, Hp.CellsAt, Nat.reduceAdd, List.cons_append, List.nil_append] at F))
              | fail)
          go_roundw
          case rel => exact ⟨k + 1, by go_num, by omega, HS.out, sh⟩
          case measure => simp [intOf]; omega
        · rw [DigP.valI_bad hv] at KC
          have HE := Lib.hid (HB.out hv)
          clear HV0 HB HS0 hv
          have F := sh.facts; (try simp only [Hp.Facts, Hp.CellsAt, Nat.reduceAdd, List.cons_append, List.nil_append] at F)
          go_wp2_with fail
          go_fit (KC.out _)
          rintro e w1 ⟨rfl, rfl⟩
          go_wp2_with (first
              | ((with_reducible refine Hp.atl_store ?_ ?_); exact rfl; (refine Hp.wp_store_all 1 sh rfl rfl rfl (by kernel_rfl) (by kernel_rfl) (by kernel_rfl) ?_); clear sh; (try clear F); intro w1 sh)
              | ((with_reducible refine Hp.wpl_box sh ?_ ?_); exact rfl; clear sh; (try clear F); go_simp; intro b w1 sh; have F := sh.facts; (try simp only [Hp.Facts, Hp.CellsAt, Nat.reduceAdd, List.cons_append, List.nil_append] at F))
              | ((with_reducible refine Hp.wpl_alloc Tryd.z_dig sh ?_ ?_); exact rfl; clear sh; (try clear F); go_simp; intro b w1 sh; have F := sh.facts; (try simp only [Hp.Facts, Hp.CellsAt, Nat.reduceAdd, List.cons_append, List.nil_append] at F))
              | ((with_reducible refine Hp.atl_store ?_ ?_); exact rfl; (first | refine Hp.wp_store 0 sh rfl rfl rfl rfl (by kernel_rfl) (Nat.le_of_ble_eq_true rfl) rfl ?_ | refine Hp.wp_store 1 sh rfl rfl rfl rfl (by kernel_rfl) (Nat.le_of_ble_eq_true rfl) rfl ?_ | refine Hp.wp_store 2 sh rfl rfl rfl rfl (by kernel_rfl) (Nat.le_of_ble_eq_true rfl) rfl ?_ | refine Hp.wp_store 3 sh rfl rfl rfl rfl (by kernel_rfl) (Nat.le_of_ble_eq_true rfl) rfl ?_ | refine Hp.wp_store 4 sh rfl rfl rfl rfl (by kernel_rfl) (Nat.le_of_ble_eq_true rfl) rfl ?_ | refine Hp.wp_store 5 sh rfl rfl rfl rfl (by kernel_rfl) (Nat.le_of_ble_eq_true rfl) rfl ?_ | refine Hp.wp_store 6 sh rfl rfl rfl rfl (by kernel_rfl) (Nat.le_of_ble_eq_true rfl) rfl ?_); clear sh; (try clear F); go_simp; intro w1 sh; have F := sh.facts; (try simp only [Hp.Facts, Hp.CellsAt, Nat.reduceAdd, List.cons_append, List.nil_append] at F))
              | fail)
          exact bodyPost_ret (Hp.res_ct rfl rfl (sh.load 1 rfl (by kernel_rfl) (by kernel_rfl))) rfl ⟨congrArg Ending.returned (show _ = Value.tuple _ by rw [HE.out.1, HE.out.2]; rfl), sh.below⟩
      · obtain rfl : k = 64 := by omega
        have HE := Lib.hid (DigP.read_good HL.out HG.out)
        have HLI := Lib.hid (show (Tryd.prog.info? 23).map (·.size) = some (DigP.bA (DigP.part s 64)).size by rw [DigP.bA_size, DigP.part_length]; kernel_rfl)
        have HSZ := Lib.hid (show (DigP.bA (DigP.part s 64)).size = (DigP.bA DigP.zero32).size by rw [DigP.bA_size, DigP.part_length, DigP.bA_size]; rfl)
        have HIF := Lib.hid (show (Tryd.prog.info? 23).map (·.size) = some (DigP.bA DigP.zero32).size by kernel_rfl)
        have HON := Lib.hid (DigP.ones_bcells (DigP.part s 64))
        generalize DigP.part s 64 = d at *
        have F := sh.facts; (try simp only [Hp.Facts, Hp.CellsAt, Nat.reduceAdd, List.cons_append, List.nil_append] at F)
        go_wp2_with (first
            | ((with_reducible refine Hp.atl_load 23 ?_); (refine Hp.wpl_load_all 0 sh rfl rfl rfl Tryd.underlying23 rfl (HLI.out) ?_); go_simp)
            | ((with_reducible refine Hp.atl_store ?_ ?_); exact rfl; (refine Hp.wp_store_all 1 sh rfl rfl rfl HSZ.out HIF.out HON.out ?_); clear sh; (try clear F); intro w1 sh; have F := sh.facts; (try simp only [Hp.Facts, Hp.CellsAt, Nat.reduceAdd, List.cons_append, List.nil_append] at F))
            | ((with_reducible refine Hp.wpl_box sh ?_ ?_); exact rfl; clear sh; (try clear F); go_simp; intro b w1 sh; have F := sh.facts; (try simp only [Hp.Facts, Hp.CellsAt, Nat.reduceAdd, List.cons_append, List.nil_append] at F))
            | ((with_reducible refine Hp.wpl_alloc Tryd.z_dig sh ?_ ?_); exact rfl; clear sh; (try clear F); go_simp; intro b w1 sh; have F := sh.facts; (try simp only [Hp.Facts, Hp.CellsAt, Nat.reduceAdd, List.cons_append, List.nil_append] at F))
            | ((with_reducible refine Hp.atl_store ?_ ?_); exact rfl; (first | refine Hp.wp_store 0 sh rfl rfl rfl rfl (by kernel_rfl) (Nat.le_of_ble_eq_true rfl) rfl ?_ | refine Hp.wp_store 1 sh rfl rfl rfl rfl (by kernel_rfl) (Nat.le_of_ble_eq_true rfl) rfl ?_ | refine Hp.wp_store 2 sh rfl rfl rfl rfl (by kernel_rfl) (Nat.le_of_ble_eq_true rfl) rfl ?_ | refine Hp.wp_store 3 sh rfl rfl rfl rfl (by kernel_rfl) (Nat.le_of_ble_eq_true rfl) rfl ?_ | refine Hp.wp_store 4 sh rfl rfl rfl rfl (by kernel_rfl) (Nat.le_of_ble_eq_true rfl) rfl ?_ | refine Hp.wp_store 5 sh rfl rfl rfl rfl (by kernel_rfl) (Nat.le_of_ble_eq_true rfl) rfl ?_ | refine Hp.wp_store 6 sh rfl rfl rfl rfl (by kernel_rfl) (Nat.le_of_ble_eq_true rfl) rfl ?_); clear sh; (try clear F); go_simp; intro w1 sh; have F := sh.facts; (try simp only [Hp.Facts, Hp.CellsAt, Nat.reduceAdd, List.cons_append, List.nil_append] at F))
            | fail)
        exact bodyPost_ret (Hp.res_ct rfl rfl (sh.load 1 rfl (by kernel_rfl) HLI.out)) rfl ⟨congrArg Ending.returned (show _ = Value.tuple _ by rw [HE.out.1, HE.out.2]; rfl), sh.below⟩
  · have hli : ((s.length : Int) == 64) = false := by simp; omega
    have hli2 : ((s.length : Int) != 64) = true := by simp; omega
    have HE := Lib.hid (DigP.read_short hl)
    clear hl
    go_enter Tryd.func6, Tryd.ntmps6
    have tok_br : True := trivial
    have tok_bd : True := trivial
    go_wp2_with (first
        | ((with_reducible refine Hp.atl_store ?_ ?_); exact rfl; (refine Hp.wp_store_all 1 sh rfl rfl rfl (by kernel_rfl) (by kernel_rfl) (by kernel_rfl) ?_); clear sh; (try clear F); intro w1 sh)
        | ((have tok := tok_br); clear tok tok_br; (first | (with_reducible refine Hp.wpl_box sh ?_ ?_) | (with_reducible refine Hp.wpl_alloc Tryd.z_dig sh ?_ ?_)); exact rfl; clear sh; (try clear F); go_simp; intro br w1 sh; have F := sh.facts; (try simp only [Hp.Facts, Hp.CellsAt, Nat.reduceAdd, List.cons_append, List.nil_append] at F))
        | ((have tok := tok_bd); clear tok tok_bd; (first | (with_reducible refine Hp.wpl_box sh ?_ ?_) | (with_reducible refine Hp.wpl_alloc Tryd.z_dig sh ?_ ?_)); exact rfl; clear sh; (try clear F); go_simp; intro bd w1 sh; have F := sh.facts; (try simp only [Hp.Facts, Hp.CellsAt, Nat.reduceAdd, List.cons_append, List.nil_append] at F))
        | ((with_reducible refine Hp.wpl_box sh ?_ ?_); exact rfl; clear sh; (try clear F); go_simp; intro b w1 sh; have F := sh.facts; (try simp only [Hp.Facts, Hp.CellsAt, Nat.reduceAdd, List.cons_append, List.nil_append] at F))
        | ((with_reducible refine Hp.wpl_alloc Tryd.z_dig sh ?_ ?_); exact rfl; clear sh; (try clear F); go_simp; intro b w1 sh; have F := sh.facts; (try simp only [Hp.Facts, Hp.CellsAt, Nat.reduceAdd, List.cons_append, List.nil_append] at F))
        | ((with_reducible refine Hp.atl_store ?_ ?_); exact rfl; (first | refine Hp.wp_store 0 sh rfl rfl rfl rfl (by kernel_rfl) (Nat.le_of_ble_eq_true rfl) rfl ?_ | refine Hp.wp_store 1 sh rfl rfl rfl rfl (by kernel_rfl) (Nat.le_of_ble_eq_true rfl) rfl ?_ | refine Hp.wp_store 2 sh rfl rfl rfl rfl (by kernel_rfl) (Nat.le_of_ble_eq_true rfl) rfl ?_ | refine Hp.wp_store 3 sh rfl rfl rfl rfl (by kernel_rfl) (Nat.le_of_ble_eq_true rfl) rfl ?_ | refine Hp.wp_store 4 sh rfl rfl rfl rfl (by kernel_rfl) (Nat.le_of_ble_eq_true rfl) rfl ?_ | refine Hp.wp_store 5 sh rfl rfl rfl rfl (by kernel_rfl) (Nat.le_of_ble_eq_true rfl) rfl ?_ | refine Hp.wp_store 6 sh rfl rfl rfl rfl (by kernel_rfl) (Nat.le_of_ble_eq_true rfl) rfl ?_); clear sh; (try clear F); go_simp; intro w1 sh; have F := sh.facts; (try simp only [Hp.Facts, Hp.CellsAt, Nat.reduceAdd, List.cons_append, List.nil_append] at F))
        | fail)
    exact bodyPost_ret (Hp.res_ct rfl rfl (sh.load 1 rfl (by kernel_rfl) (by kernel_rfl))) rfl ⟨congrArg Ending.returned (show _ = Value.tuple _ by rw [HE.out.1, HE.out.2]; rfl), sh.below⟩

set_option maxHeartbeats 8000000 in
set_option maxRecDepth 100000 in
theorem drread (s : List UInt8) (w : World) (hm : s.length ≤ 9223372036854775807) : Calls Tryd.prog 7 #[.string (bstr s)] w fun e w' => DigP.ReadP s w e w' := by
  have sh : Hp.Sh w w [] (fun _ => True) := Hp.Sh.start (fun _ _ => trivial)
  have hs : (bstr s).size = s.length := bstr_size s
  by_cases hl : s.length = 64
  · have HL := Lib.hid hl
    rw [hl] at hs
    clear hl
    go_enter Tryd.func7, Tryd.ntmps7
    have tok_br : True := trivial
    have tok_bd : True := trivial
    go_wp2_with (first
        | ((have tok := tok_br); clear tok tok_br; (first | (with_reducible refine Hp.wpl_box sh ?_ ?_) | (with_reducible refine Hp.wpl_alloc Tryd.z_dig sh ?_ ?_)); exact rfl; clear sh; (try clear F); go_simp; intro br w1 sh; have F := sh.facts; (try simp only [Hp.Facts, Hp.CellsAt, Nat.reduceAdd, List.cons_append, List.nil_append] at F))
        | ((have tok := tok_bd); clear tok tok_bd; (first | (with_reducible refine Hp.wpl_box sh ?_ ?_) | (with_reducible refine Hp.wpl_alloc Tryd.z_dig sh ?_ ?_)); exact rfl; clear sh; (try clear F); go_simp; intro bd w1 sh; have F := sh.facts; (try simp only [Hp.Facts, Hp.CellsAt, Nat.reduceAdd, List.cons_append, List.nil_append] at F))
        | ((with_reducible refine Hp.wpl_box sh ?_ ?_); exact rfl; clear sh; (try clear F); go_simp; intro b w1 sh; have F := sh.facts; (try simp only [Hp.Facts, Hp.CellsAt, Nat.reduceAdd, List.cons_append, List.nil_append] at F))
        | ((with_reducible refine Hp.wpl_alloc Tryd.z_dig sh ?_ ?_); exact rfl; clear sh; (try clear F); go_simp; intro b w1 sh; have F := sh.facts; (try simp only [Hp.Facts, Hp.CellsAt, Nat.reduceAdd, List.cons_append, List.nil_append] at F))
        | ((with_reducible refine Hp.atl_store ?_ ?_); exact rfl; (first | refine Hp.wp_store 0 sh rfl rfl rfl rfl (by kernel_rfl) (Nat.le_of_ble_eq_true rfl) rfl ?_ | refine Hp.wp_store 1 sh rfl rfl rfl rfl (by kernel_rfl) (Nat.le_of_ble_eq_true rfl) rfl ?_ | refine Hp.wp_store 2 sh rfl rfl rfl rfl (by kernel_rfl) (Nat.le_of_ble_eq_true rfl) rfl ?_ | refine Hp.wp_store 3 sh rfl rfl rfl rfl (by kernel_rfl) (Nat.le_of_ble_eq_true rfl) rfl ?_ | refine Hp.wp_store 4 sh rfl rfl rfl rfl (by kernel_rfl) (Nat.le_of_ble_eq_true rfl) rfl ?_ | refine Hp.wp_store 5 sh rfl rfl rfl rfl (by kernel_rfl) (Nat.le_of_ble_eq_true rfl) rfl ?_ | refine Hp.wp_store 6 sh rfl rfl rfl rfl (by kernel_rfl) (Nat.le_of_ble_eq_true rfl) rfl ?_); clear sh; (try clear F); go_simp; intro w1 sh; have F := sh.facts; (try simp only [Hp.Facts, Hp.CellsAt, Nat.reduceAdd, List.cons_append, List.nil_append] at F))
        | fail)
    go_loopw [5] (fun i wr => ∃ k : Nat, i = .int .i64 k ∧ k ≤ 32 ∧ Hid (∀ j, j < 2 * k → DigP.val (s.getD j 0) < 16) ∧ Hp.Sh w wr [(bd, DigP.bA (DigP.part s (2 * k)), 23), (br, DigP.bA DigP.zero32, 23)] (fun _ => True)) (fun i _ => 32 - (intOf i).toNat)
    case atStart => exact ⟨0, rfl, by omega, fun j hj => by omega, by rw [DigP.part_zero]; exact sh⟩
    case round =>
      clear sh F
      obtain ⟨k, rfl, hk, HG, sh⟩ := hrel
      by_cases hlt : k < 32
      · have hlI : (k : Int) < 32 := by omega
        have g0 : IntKind.i64.wrap (2 * (k : Int)) = 2 * (k : Int) := IntWalk.i64_in _ (by omega)
        have g1 : IntKind.i64.wrap (2 * (k : Int) + 1) = 2 * (k : Int) + 1 := IntWalk.i64_in _ (by omega)
        have e0 : (2 * (k : Int)).toNat = 2 * k := by omega
        have e1 : (2 * (k : Int) + 1).toNat = 2 * k + 1 := by omega
        have p0 : (0 : Int) ≤ 2 * (k : Int) := by omega
        have p1 : (0 : Int) ≤ 2 * (k : Int) + 1 := by omega
        have q0 : 2 * k < 64 := by omega
        have q1 : 2 * k + 1 < 64 := by omega
        have r0 : 2 * (k : Int) < 64 := by omega
        have r1 : 2 * (k : Int) + 1 < 64 := by omega
        have hx0 := DigP.bget s (2 * k) (by rw [hs]; omega)
        have hx1 := DigP.bget s (2 * k + 1) (by rw [hs]; omega)
        have HV0 := Lib.hid (fun a b => DigP.part_two s k hlt a b HG.out)
        have HB0 := Lib.hid (show ¬ DigP.val (s.getD (2 * k) 0) < 16 → _ from fun q => DigP.read_bad (s := s) (k := 2 * k) (by rw [HL.out]; omega) q)
        have HB1 := Lib.hid (show ¬ DigP.val (s.getD (2 * k + 1) 0) < 16 → _ from fun q => DigP.read_bad (s := s) (k := 2 * k + 1) (by rw [HL.out]; omega) q)
        have HS0 := Lib.hid (show DigP.val (s.getD (2 * k) 0) < 16 → DigP.val (s.getD (2 * k + 1) 0) < 16 → ∀ j, j < 2 * (k + 1) → DigP.val (s.getD j 0) < 16 from fun q q' j hj => by
          by_cases e : j = 2 * k
          · rw [e]; exact q
          · by_cases e' : j = 2 * k + 1
            · rw [e']; exact q'
            · exact HG.out j (by omega))
        generalize s.getD (2 * k) 0 = c0 at hx0 HV0 HB0 HS0
        generalize s.getD (2 * k + 1) 0 = c1 at hx1 HV0 HB1 HS0
        have K0 := Lib.hid (fun W => drval c0 W)
        have K1 := Lib.hid (fun W => drval c1 W)
        by_cases hv0 : DigP.val c0 < 16
        · rw [DigP.valI_good hv0] at K0
          by_cases hv1 : DigP.val c1 < 16
          · rw [DigP.valI_good hv1] at K1
            have HV := Lib.hid (HV0.out hv0 hv1)
            have HS := Lib.hid (HS0.out hv0 hv1)
            generalize DigP.val c0 = m0 at K0 HV hv0
            generalize DigP.val c1 = m1 at K1 HV hv1
            have b0 : (16 : Int) * (m0 : Int) + (m1 : Int) ≤ 255 := by omega
            have b1 : (16 : Int) * (m0 : Int) ≤ 240 := by omega
            have a0 : ¬ (m0 : Int) < 0 := by omega
            have a1 : ¬ (m1 : Int) < 0 := by omega
            have n0 : (0 : Int) ≤ (m0 : Int) := by omega
            have n1 : (0 : Int) ≤ (m1 : Int) := by omega
            have f0 : IntKind.u8.wrap (16 * (m0 : Int) + (m1 : Int)) = ((UInt8.ofNat (16 * m0 + m1)).toNat : Int) := by rw [DigP.toNat_of (by omega)]; simp [IntKind.wrap, IntKind.bits, IntKind.signed]; omega
            have f1 : 16 * (m0 : Int) + (m1 : Int) = ((UInt8.ofNat (16 * m0 + m1)).toNat : Int) := by rw [DigP.toNat_of (by omega)]; omega
            generalize UInt8.ofNat (16 * m0 + m1) = r at f0 f1 HV
            have g2 : k < 32 := hlt
            have hsz : k + 1 ≤ (DigP.bA (DigP.part s (2 * k))).size := by rw [DigP.bA_size, DigP.part_length]; omega
            have HP := Lib.hid (show (DigP.bA (DigP.part s (2 * k))).setIfInBounds k (.int .u8 (r.toNat : Int)) = DigP.bA (DigP.part s (2 * (k + 1))) by rw [DigP.bA_set, HV.out])
            clear HV HV0 HB0 HB1 HS0
            have F := sh.facts; (try simp only [Hp.Facts, Hp.CellsAt, Nat.reduceAdd, List.cons_append, List.nil_append] at F)
            go_wp2_with (first
                | ((with_reducible refine Hp.wpl_box sh ?_ ?_); exact rfl; clear sh; (try clear F); go_simp; intro b w1 sh; have F := sh.facts; (try simp only [Hp.Facts, Hp.CellsAt, Nat.reduceAdd, List.cons_append, List.nil_append] at F))
                | ((with_reducible refine Hp.wpl_alloc Tryd.z_dig sh ?_ ?_); exact rfl; clear sh; (try clear F); go_simp; intro b w1 sh; have F := sh.facts; (try simp only [Hp.Facts, Hp.CellsAt, Nat.reduceAdd, List.cons_append, List.nil_append] at F))
                | ((with_reducible refine Hp.atl_store ?_ ?_); exact rfl; (first | refine Hp.wp_store 0 sh rfl rfl rfl rfl (by kernel_rfl) (Nat.le_of_ble_eq_true rfl) rfl ?_ | refine Hp.wp_store 1 sh rfl rfl rfl rfl (by kernel_rfl) (Nat.le_of_ble_eq_true rfl) rfl ?_ | refine Hp.wp_store 2 sh rfl rfl rfl rfl (by kernel_rfl) (Nat.le_of_ble_eq_true rfl) rfl ?_ | refine Hp.wp_store 3 sh rfl rfl rfl rfl (by kernel_rfl) (Nat.le_of_ble_eq_true rfl) rfl ?_ | refine Hp.wp_store 4 sh rfl rfl rfl rfl (by kernel_rfl) (Nat.le_of_ble_eq_true rfl) rfl ?_ | refine Hp.wp_store 5 sh rfl rfl rfl rfl (by kernel_rfl) (Nat.le_of_ble_eq_true rfl) rfl ?_ | refine Hp.wp_store 6 sh rfl rfl rfl rfl (by kernel_rfl) (Nat.le_of_ble_eq_true rfl) rfl ?_); clear sh; (try clear F); go_simp; intro w1 sh; have F := sh.facts; (try simp only [Hp.Facts, Hp.CellsAt, Nat.reduceAdd, List.cons_append, List.nil_append] at F))
                | fail)
            go_fit (K0.out _)
            rintro e w1 ⟨rfl, hb⟩
            replace sh := sh.call hb; clear hb; (try clear F); have F := sh.facts; (try simp only [Hp.Facts, Hp.CellsAt, Nat.reduceAdd, List.cons_append, List.nil_append] at F)
            go_wp2_with (first
                | ((with_reducible refine Hp.wpl_box sh ?_ ?_); exact rfl; clear sh; (try clear F); go_simp; intro b w1 sh; have F := sh.facts; (try simp only [Hp.Facts, Hp.CellsAt, Nat.reduceAdd, List.cons_append, List.nil_append] at F))
                | ((with_reducible refine Hp.wpl_alloc Tryd.z_dig sh ?_ ?_); exact rfl; clear sh; (try clear F); go_simp; intro b w1 sh; have F := sh.facts; (try simp only [Hp.Facts, Hp.CellsAt, Nat.reduceAdd, List.cons_append, List.nil_append] at F))
                | ((with_reducible refine Hp.atl_store ?_ ?_); exact rfl; (first | refine Hp.wp_store 0 sh rfl rfl rfl rfl (by kernel_rfl) (Nat.le_of_ble_eq_true rfl) rfl ?_ | refine Hp.wp_store 1 sh rfl rfl rfl rfl (by kernel_rfl) (Nat.le_of_ble_eq_true rfl) rfl ?_ | refine Hp.wp_store 2 sh rfl rfl rfl rfl (by kernel_rfl) (Nat.le_of_ble_eq_true rfl) rfl ?_ | refine Hp.wp_store 3 sh rfl rfl rfl rfl (by kernel_rfl) (Nat.le_of_ble_eq_true rfl) rfl ?_ | refine Hp.wp_store 4 sh rfl rfl rfl rfl (by kernel_rfl) (Nat.le_of_ble_eq_true rfl) rfl ?_ | refine Hp.wp_store 5 sh rfl rfl rfl rfl (by kernel_rfl) (Nat.le_of_ble_eq_true rfl) rfl ?_ | refine Hp.wp_store 6 sh rfl rfl rfl rfl (by kernel_rfl) (Nat.le_of_ble_eq_true rfl) rfl ?_); clear sh; (try clear F); go_simp; intro w1 sh; have F := sh.facts; (try simp only [Hp.Facts, Hp.CellsAt, Nat.reduceAdd, List.cons_append, List.nil_append] at F))
                | fail)
            go_fit (K1.out _)
            rintro e w1 ⟨rfl, hb⟩
            replace sh := sh.call hb; clear hb; (try clear F); have F := sh.facts; (try simp only [Hp.Facts, Hp.CellsAt, Nat.reduceAdd, List.cons_append, List.nil_append] at F)
            go_wp2_with (first
                | ((with_reducible refine Hp.atl_store ?_ ?_); exact rfl; (refine Hp.wp_store 0 sh rfl rfl rfl rfl (by kernel_rfl) (hsz) rfl ?_); clear sh; (try clear F); go_simp; intro w1 sh; rw [HP.out] at sh; have F := sh.facts; (try simp only [Hp.Facts, Hp.CellsAt, Nat.reduceAdd, List.cons_append, List.nil_append] at F))
                | ((with_reducible refine Hp.wpl_box sh ?_ ?_); exact rfl; clear sh; (try clear F); go_simp; intro b w1 sh; have F := sh.facts; (try simp only [Hp.Facts, Hp.CellsAt, Nat.reduceAdd, List.cons_append, List.nil_append] at F))
                | ((with_reducible refine Hp.wpl_alloc Tryd.z_dig sh ?_ ?_); exact rfl; clear sh; (try clear F); go_simp; intro b w1 sh; have F := sh.facts; (try simp only [Hp.Facts, Hp.CellsAt, Nat.reduceAdd, List.cons_append, List.nil_append] at F))
                | ((with_reducible refine Hp.atl_store ?_ ?_); exact rfl; (first | refine Hp.wp_store 0 sh rfl rfl rfl rfl (by kernel_rfl) (Nat.le_of_ble_eq_true rfl) rfl ?_ | refine Hp.wp_store 1 sh rfl rfl rfl rfl (by kernel_rfl) (Nat.le_of_ble_eq_true rfl) rfl ?_ | refine Hp.wp_store 2 sh rfl rfl rfl rfl (by kernel_rfl) (Nat.le_of_ble_eq_true rfl) rfl ?_ | refine Hp.wp_store 3 sh rfl rfl rfl rfl (by kernel_rfl) (Nat.le_of_ble_eq_true rfl) rfl ?_ | refine Hp.wp_store 4 sh rfl rfl rfl rfl (by kernel_rfl) (Nat.le_of_ble_eq_true rfl) rfl ?_ | refine Hp.wp_store 5 sh rfl rfl rfl rfl (by kernel_rfl) (Nat.le_of_ble_eq_true rfl) rfl ?_ | refine Hp.wp_store 6 sh rfl rfl rfl rfl (by kernel_rfl) (Nat.le_of_ble_eq_true rfl) rfl ?_); clear sh; (try clear F); go_simp; intro w1 sh; have F := sh.facts; (try simp only [Hp.Facts, Hp.CellsAt, Nat.reduceAdd, List.cons_append, List.nil_append] at F))
                | fail)
            go_roundw
            case rel => exact ⟨k + 1, by go_num, by omega, HS.out, sh⟩
            case measure => simp [intOf]; omega
          · rw [DigP.valI_bad hv1] at K1
            have HE := Lib.hid (HB1.out hv1)
            have a0 : ¬ (DigP.val c0 : Int) < 0 := by omega
            clear HV0 HB0 HB1 HS0 hv0 hv1
            have F := sh.facts; (try simp only [Hp.Facts, Hp.CellsAt, Nat.reduceAdd, List.cons_append, List.nil_append] at F)
            go_wp2_with (first
                | ((with_reducible refine Hp.wpl_box sh ?_ ?_); exact rfl; clear sh; (try clear F); go_simp; intro b w1 sh; have F := sh.facts; (try simp only [Hp.Facts, Hp.CellsAt, Nat.reduceAdd, List.cons_append, List.nil_append] at F))
                | ((with_reducible refine Hp.wpl_alloc Tryd.z_dig sh ?_ ?_); exact rfl; clear sh; (try clear F); go_simp; intro b w1 sh; have F := sh.facts; (try simp only [Hp.Facts, Hp.CellsAt, Nat.reduceAdd, List.cons_append, List.nil_append] at F))
                | ((with_reducible refine Hp.atl_store ?_ ?_); exact rfl; (first | refine Hp.wp_store 0 sh rfl rfl rfl rfl (by kernel_rfl) (Nat.le_of_ble_eq_true rfl) rfl ?_ | refine Hp.wp_store 1 sh rfl rfl rfl rfl (by kernel_rfl) (Nat.le_of_ble_eq_true rfl) rfl ?_ | refine Hp.wp_store 2 sh rfl rfl rfl rfl (by kernel_rfl) (Nat.le_of_ble_eq_true rfl) rfl ?_ | refine Hp.wp_store 3 sh rfl rfl rfl rfl (by kernel_rfl) (Nat.le_of_ble_eq_true rfl) rfl ?_ | refine Hp.wp_store 4 sh rfl rfl rfl rfl (by kernel_rfl) (Nat.le_of_ble_eq_true rfl) rfl ?_ | refine Hp.wp_store 5 sh rfl rfl rfl rfl (by kernel_rfl) (Nat.le_of_ble_eq_true rfl) rfl ?_ | refine Hp.wp_store 6 sh rfl rfl rfl rfl (by kernel_rfl) (Nat.le_of_ble_eq_true rfl) rfl ?_); clear sh; (try clear F); go_simp; intro w1 sh; have F := sh.facts; (try simp only [Hp.Facts, Hp.CellsAt, Nat.reduceAdd, List.cons_append, List.nil_append] at F))
                | fail)
            go_fit (K0.out _)
            rintro e w1 ⟨rfl, hb⟩
            replace sh := sh.call hb; clear hb; (try clear F); have F := sh.facts; (try simp only [Hp.Facts, Hp.CellsAt, Nat.reduceAdd, List.cons_append, List.nil_append] at F)
            go_wp2_with (first
                | ((with_reducible refine Hp.wpl_box sh ?_ ?_); exact rfl; clear sh; (try clear F); go_simp; intro b w1 sh; have F := sh.facts; (try simp only [Hp.Facts, Hp.CellsAt, Nat.reduceAdd, List.cons_append, List.nil_append] at F))
                | ((with_reducible refine Hp.wpl_alloc Tryd.z_dig sh ?_ ?_); exact rfl; clear sh; (try clear F); go_simp; intro b w1 sh; have F := sh.facts; (try simp only [Hp.Facts, Hp.CellsAt, Nat.reduceAdd, List.cons_append, List.nil_append] at F))
                | ((with_reducible refine Hp.atl_store ?_ ?_); exact rfl; (first | refine Hp.wp_store 0 sh rfl rfl rfl rfl (by kernel_rfl) (Nat.le_of_ble_eq_true rfl) rfl ?_ | refine Hp.wp_store 1 sh rfl rfl rfl rfl (by kernel_rfl) (Nat.le_of_ble_eq_true rfl) rfl ?_ | refine Hp.wp_store 2 sh rfl rfl rfl rfl (by kernel_rfl) (Nat.le_of_ble_eq_true rfl) rfl ?_ | refine Hp.wp_store 3 sh rfl rfl rfl rfl (by kernel_rfl) (Nat.le_of_ble_eq_true rfl) rfl ?_ | refine Hp.wp_store 4 sh rfl rfl rfl rfl (by kernel_rfl) (Nat.le_of_ble_eq_true rfl) rfl ?_ | refine Hp.wp_store 5 sh rfl rfl rfl rfl (by kernel_rfl) (Nat.le_of_ble_eq_true rfl) rfl ?_ | refine Hp.wp_store 6 sh rfl rfl rfl rfl (by kernel_rfl) (Nat.le_of_ble_eq_true rfl) rfl ?_); clear sh; (try clear F); go_simp; intro w1 sh; have F := sh.facts; (try simp only [Hp.Facts, Hp.CellsAt, Nat.reduceAdd, List.cons_append, List.nil_append] at F))
                | fail)
            go_fit (K1.out _)
            rintro e w1 ⟨rfl, hb⟩
            replace sh := sh.call hb; clear hb; (try clear F); have F := sh.facts; (try simp only [Hp.Facts, Hp.CellsAt, Nat.reduceAdd, List.cons_append, List.nil_append] at F)
            go_wp2_with (first
                | ((with_reducible refine Hp.atl_store ?_ ?_); exact rfl; (refine Hp.wp_store_all 1 sh rfl rfl rfl (by kernel_rfl) (by kernel_rfl) (by kernel_rfl) ?_); clear sh; (try clear F); intro w1 sh)
                | ((with_reducible refine Hp.wpl_box sh ?_ ?_); exact rfl; clear sh; (try clear F); go_simp; intro b w1 sh; have F := sh.facts; (try simp only [Hp.Facts, Hp.CellsAt, Nat.reduceAdd, List.cons_append, List.nil_append] at F))
                | ((with_reducible refine Hp.wpl_alloc Tryd.z_dig sh ?_ ?_); exact rfl; clear sh; (try clear F); go_simp; intro b w1 sh; have F := sh.facts; (try simp only [Hp.Facts, Hp.CellsAt, Nat.reduceAdd, List.cons_append, List.nil_append] at F))
                | ((with_reducible refine Hp.atl_store ?_ ?_); exact rfl; (first | refine Hp.wp_store 0 sh rfl rfl rfl rfl (by kernel_rfl) (Nat.le_of_ble_eq_true rfl) rfl ?_ | refine Hp.wp_store 1 sh rfl rfl rfl rfl (by kernel_rfl) (Nat.le_of_ble_eq_true rfl) rfl ?_ | refine Hp.wp_store 2 sh rfl rfl rfl rfl (by kernel_rfl) (Nat.le_of_ble_eq_true rfl) rfl ?_ | refine Hp.wp_store 3 sh rfl rfl rfl rfl (by kernel_rfl) (Nat.le_of_ble_eq_true rfl) rfl ?_ | refine Hp.wp_store 4 sh rfl rfl rfl rfl (by kernel_rfl) (Nat.le_of_ble_eq_true rfl) rfl ?_ | refine Hp.wp_store 5 sh rfl rfl rfl rfl (by kernel_rfl) (Nat.le_of_ble_eq_true rfl) rfl ?_ | refine Hp.wp_store 6 sh rfl rfl rfl rfl (by kernel_rfl) (Nat.le_of_ble_eq_true rfl) rfl ?_); clear sh; (try clear F); go_simp; intro w1 sh; have F := sh.facts; (try simp only [Hp.Facts, Hp.CellsAt, Nat.reduceAdd, List.cons_append, List.nil_append] at F))
                | fail)
            exact bodyPost_ret (Hp.res_ct rfl rfl (sh.load 1 rfl (by kernel_rfl) (by kernel_rfl))) rfl ⟨congrArg Ending.returned (show _ = Value.tuple _ by rw [HE.out.1, HE.out.2]; rfl), sh.below⟩
        · rw [DigP.valI_bad hv0] at K0
          have HE := Lib.hid (HB0.out hv0)
          clear HV0 HB0 HB1 HS0 hv0
          have F := sh.facts; (try simp only [Hp.Facts, Hp.CellsAt, Nat.reduceAdd, List.cons_append, List.nil_append] at F)
          go_wp2_with (first
              | ((with_reducible refine Hp.wpl_box sh ?_ ?_); exact rfl; clear sh; (try clear F); go_simp; intro b w1 sh; have F := sh.facts; (try simp only [Hp.Facts, Hp.CellsAt, Nat.reduceAdd, List.cons_append, List.nil_append] at F))
              | ((with_reducible refine Hp.wpl_alloc Tryd.z_dig sh ?_ ?_); exact rfl; clear sh; (try clear F); go_simp; intro b w1 sh; have F := sh.facts; (try simp only [Hp.Facts, Hp.CellsAt, Nat.reduceAdd, List.cons_append, List.nil_append] at F))
              | ((with_reducible refine Hp.atl_store ?_ ?_); exact rfl; (first | refine Hp.wp_store 0 sh rfl rfl rfl rfl (by kernel_rfl) (Nat.le_of_ble_eq_true rfl) rfl ?_ | refine Hp.wp_store 1 sh rfl rfl rfl rfl (by kernel_rfl) (Nat.le_of_ble_eq_true rfl) rfl ?_ | refine Hp.wp_store 2 sh rfl rfl rfl rfl (by kernel_rfl) (Nat.le_of_ble_eq_true rfl) rfl ?_ | refine Hp.wp_store 3 sh rfl rfl rfl rfl (by kernel_rfl) (Nat.le_of_ble_eq_true rfl) rfl ?_ | refine Hp.wp_store 4 sh rfl rfl rfl rfl (by kernel_rfl) (Nat.le_of_ble_eq_true rfl) rfl ?_ | refine Hp.wp_store 5 sh rfl rfl rfl rfl (by kernel_rfl) (Nat.le_of_ble_eq_true rfl) rfl ?_ | refine Hp.wp_store 6 sh rfl rfl rfl rfl (by kernel_rfl) (Nat.le_of_ble_eq_true rfl) rfl ?_); clear sh; (try clear F); go_simp; intro w1 sh; have F := sh.facts; (try simp only [Hp.Facts, Hp.CellsAt, Nat.reduceAdd, List.cons_append, List.nil_append] at F))
              | fail)
          go_fit (K0.out _)
          rintro e w1 ⟨rfl, hb⟩
          replace sh := sh.call hb; clear hb; (try clear F); have F := sh.facts; (try simp only [Hp.Facts, Hp.CellsAt, Nat.reduceAdd, List.cons_append, List.nil_append] at F)
          go_wp2_with (first
              | ((with_reducible refine Hp.wpl_box sh ?_ ?_); exact rfl; clear sh; (try clear F); go_simp; intro b w1 sh; have F := sh.facts; (try simp only [Hp.Facts, Hp.CellsAt, Nat.reduceAdd, List.cons_append, List.nil_append] at F))
              | ((with_reducible refine Hp.wpl_alloc Tryd.z_dig sh ?_ ?_); exact rfl; clear sh; (try clear F); go_simp; intro b w1 sh; have F := sh.facts; (try simp only [Hp.Facts, Hp.CellsAt, Nat.reduceAdd, List.cons_append, List.nil_append] at F))
              | ((with_reducible refine Hp.atl_store ?_ ?_); exact rfl; (first | refine Hp.wp_store 0 sh rfl rfl rfl rfl (by kernel_rfl) (Nat.le_of_ble_eq_true rfl) rfl ?_ | refine Hp.wp_store 1 sh rfl rfl rfl rfl (by kernel_rfl) (Nat.le_of_ble_eq_true rfl) rfl ?_ | refine Hp.wp_store 2 sh rfl rfl rfl rfl (by kernel_rfl) (Nat.le_of_ble_eq_true rfl) rfl ?_ | refine Hp.wp_store 3 sh rfl rfl rfl rfl (by kernel_rfl) (Nat.le_of_ble_eq_true rfl) rfl ?_ | refine Hp.wp_store 4 sh rfl rfl rfl rfl (by kernel_rfl) (Nat.le_of_ble_eq_true rfl) rfl ?_ | refine Hp.wp_store 5 sh rfl rfl rfl rfl (by kernel_rfl) (Nat.le_of_ble_eq_true rfl) rfl ?_ | refine Hp.wp_store 6 sh rfl rfl rfl rfl (by kernel_rfl) (Nat.le_of_ble_eq_true rfl) rfl ?_); clear sh; (try clear F); go_simp; intro w1 sh; have F := sh.facts; (try simp only [Hp.Facts, Hp.CellsAt, Nat.reduceAdd, List.cons_append, List.nil_append] at F))
              | fail)
          go_fit (K1.out _)
          rintro e w1 ⟨rfl, hb⟩
          replace sh := sh.call hb; clear hb; (try clear F); have F := sh.facts; (try simp only [Hp.Facts, Hp.CellsAt, Nat.reduceAdd, List.cons_append, List.nil_append] at F)
          go_wp2_with (first
              | ((with_reducible refine Hp.atl_store ?_ ?_); exact rfl; (refine Hp.wp_store_all 1 sh rfl rfl rfl (by kernel_rfl) (by kernel_rfl) (by kernel_rfl) ?_); clear sh; (try clear F); intro w1 sh)
              | ((with_reducible refine Hp.wpl_box sh ?_ ?_); exact rfl; clear sh; (try clear F); go_simp; intro b w1 sh; have F := sh.facts; (try simp only [Hp.Facts, Hp.CellsAt, Nat.reduceAdd, List.cons_append, List.nil_append] at F))
              | ((with_reducible refine Hp.wpl_alloc Tryd.z_dig sh ?_ ?_); exact rfl; clear sh; (try clear F); go_simp; intro b w1 sh; have F := sh.facts; (try simp only [Hp.Facts, Hp.CellsAt, Nat.reduceAdd, List.cons_append, List.nil_append] at F))
              | ((with_reducible refine Hp.atl_store ?_ ?_); exact rfl; (first | refine Hp.wp_store 0 sh rfl rfl rfl rfl (by kernel_rfl) (Nat.le_of_ble_eq_true rfl) rfl ?_ | refine Hp.wp_store 1 sh rfl rfl rfl rfl (by kernel_rfl) (Nat.le_of_ble_eq_true rfl) rfl ?_ | refine Hp.wp_store 2 sh rfl rfl rfl rfl (by kernel_rfl) (Nat.le_of_ble_eq_true rfl) rfl ?_ | refine Hp.wp_store 3 sh rfl rfl rfl rfl (by kernel_rfl) (Nat.le_of_ble_eq_true rfl) rfl ?_ | refine Hp.wp_store 4 sh rfl rfl rfl rfl (by kernel_rfl) (Nat.le_of_ble_eq_true rfl) rfl ?_ | refine Hp.wp_store 5 sh rfl rfl rfl rfl (by kernel_rfl) (Nat.le_of_ble_eq_true rfl) rfl ?_ | refine Hp.wp_store 6 sh rfl rfl rfl rfl (by kernel_rfl) (Nat.le_of_ble_eq_true rfl) rfl ?_); clear sh; (try clear F); go_simp; intro w1 sh; have F := sh.facts; (try simp only [Hp.Facts, Hp.CellsAt, Nat.reduceAdd, List.cons_append, List.nil_append] at F))
              | fail)
          exact bodyPost_ret (Hp.res_ct rfl rfl (sh.load 1 rfl (by kernel_rfl) (by kernel_rfl))) rfl ⟨congrArg Ending.returned (show _ = Value.tuple _ by rw [HE.out.1, HE.out.2]; rfl), sh.below⟩
      · obtain rfl : k = 32 := by omega
        have HE := Lib.hid (DigP.read_good HL.out HG.out)
        have HLI := Lib.hid (show (Tryd.prog.info? 23).map (·.size) = some (DigP.bA (DigP.part s 64)).size by rw [DigP.bA_size, DigP.part_length]; kernel_rfl)
        have HSZ := Lib.hid (show (DigP.bA (DigP.part s 64)).size = (DigP.bA DigP.zero32).size by rw [DigP.bA_size, DigP.part_length, DigP.bA_size]; rfl)
        have HIF := Lib.hid (show (Tryd.prog.info? 23).map (·.size) = some (DigP.bA DigP.zero32).size by kernel_rfl)
        have HON := Lib.hid (DigP.ones_bcells (DigP.part s 64))
        rw [show 2 * 32 = 64 from rfl] at sh
        generalize DigP.part s 64 = d at *
        have F := sh.facts; (try simp only [Hp.Facts, Hp.CellsAt, Nat.reduceAdd, List.cons_append, List.nil_append] at F)
        go_wp2_with (first
            | ((with_reducible refine Hp.atl_load 23 ?_); (refine Hp.wpl_load_all 0 sh rfl rfl rfl Tryd.underlying23 rfl (HLI.out) ?_); go_simp)
            | ((with_reducible refine Hp.atl_store ?_ ?_); exact rfl; (refine Hp.wp_store_all 1 sh rfl rfl rfl HSZ.out HIF.out HON.out ?_); clear sh; (try clear F); intro w1 sh; have F := sh.facts; (try simp only [Hp.Facts, Hp.CellsAt, Nat.reduceAdd, List.cons_append, List.nil_append] at F))
            | ((with_reducible refine Hp.wpl_box sh ?_ ?_); exact rfl; clear sh; (try clear F); go_simp; intro b w1 sh; have F := sh.facts; (try simp only [Hp.Facts, Hp.CellsAt, Nat.reduceAdd, List.cons_append, List.nil_append] at F))
            | ((with_reducible refine Hp.wpl_alloc Tryd.z_dig sh ?_ ?_); exact rfl; clear sh; (try clear F); go_simp; intro b w1 sh; have F := sh.facts; (try simp only [Hp.Facts, Hp.CellsAt, Nat.reduceAdd, List.cons_append, List.nil_append] at F))
            | ((with_reducible refine Hp.atl_store ?_ ?_); exact rfl; (first | refine Hp.wp_store 0 sh rfl rfl rfl rfl (by kernel_rfl) (Nat.le_of_ble_eq_true rfl) rfl ?_ | refine Hp.wp_store 1 sh rfl rfl rfl rfl (by kernel_rfl) (Nat.le_of_ble_eq_true rfl) rfl ?_ | refine Hp.wp_store 2 sh rfl rfl rfl rfl (by kernel_rfl) (Nat.le_of_ble_eq_true rfl) rfl ?_ | refine Hp.wp_store 3 sh rfl rfl rfl rfl (by kernel_rfl) (Nat.le_of_ble_eq_true rfl) rfl ?_ | refine Hp.wp_store 4 sh rfl rfl rfl rfl (by kernel_rfl) (Nat.le_of_ble_eq_true rfl) rfl ?_ | refine Hp.wp_store 5 sh rfl rfl rfl rfl (by kernel_rfl) (Nat.le_of_ble_eq_true rfl) rfl ?_ | refine Hp.wp_store 6 sh rfl rfl rfl rfl (by kernel_rfl) (Nat.le_of_ble_eq_true rfl) rfl ?_); clear sh; (try clear F); go_simp; intro w1 sh; have F := sh.facts; (try simp only [Hp.Facts, Hp.CellsAt, Nat.reduceAdd, List.cons_append, List.nil_append] at F))
            | fail)
        exact bodyPost_ret (Hp.res_ct rfl rfl (sh.load 1 rfl (by kernel_rfl) HLI.out)) rfl ⟨congrArg Ending.returned (show _ = Value.tuple _ by rw [HE.out.1, HE.out.2]; rfl), sh.below⟩
  · have hli : ((s.length : Int) == 64) = false := by simp; omega
    have hli2 : ((s.length : Int) != 64) = true := by simp; omega
    have HE := Lib.hid (DigP.read_short hl)
    clear hl
    go_enter Tryd.func7, Tryd.ntmps7
    have tok_br : True := trivial
    have tok_bd : True := trivial
    go_wp2_with (first
        | ((with_reducible refine Hp.atl_load 23 ?_); (refine Hp.wpl_load_all 0 sh rfl rfl rfl Tryd.underlying23 rfl (by kernel_rfl) ?_); go_simp)
        | ((with_reducible refine Hp.atl_store ?_ ?_); exact rfl; (refine Hp.wp_store_all 1 sh rfl rfl rfl (by kernel_rfl) (by kernel_rfl) (by kernel_rfl) ?_); clear sh; (try clear F); intro w1 sh)
        | ((have tok := tok_br); clear tok tok_br; (first | (with_reducible refine Hp.wpl_box sh ?_ ?_) | (with_reducible refine Hp.wpl_alloc Tryd.z_dig sh ?_ ?_)); exact rfl; clear sh; (try clear F); go_simp; intro br w1 sh; have F := sh.facts; (try simp only [Hp.Facts, Hp.CellsAt, Nat.reduceAdd, List.cons_append, List.nil_append] at F))
        | ((have tok := tok_bd); clear tok tok_bd; (first | (with_reducible refine Hp.wpl_box sh ?_ ?_) | (with_reducible refine Hp.wpl_alloc Tryd.z_dig sh ?_ ?_)); exact rfl; clear sh; (try clear F); go_simp; intro bd w1 sh; have F := sh.facts; (try simp only [Hp.Facts, Hp.CellsAt, Nat.reduceAdd, List.cons_append, List.nil_append] at F))
        | ((with_reducible refine Hp.wpl_box sh ?_ ?_); exact rfl; clear sh; (try clear F); go_simp; intro b w1 sh; have F := sh.facts; (try simp only [Hp.Facts, Hp.CellsAt, Nat.reduceAdd, List.cons_append, List.nil_append] at F))
        | ((with_reducible refine Hp.wpl_alloc Tryd.z_dig sh ?_ ?_); exact rfl; clear sh; (try clear F); go_simp; intro b w1 sh; have F := sh.facts; (try simp only [Hp.Facts, Hp.CellsAt, Nat.reduceAdd, List.cons_append, List.nil_append] at F))
        | ((with_reducible refine Hp.atl_store ?_ ?_); exact rfl; (first | refine Hp.wp_store 0 sh rfl rfl rfl rfl (by kernel_rfl) (Nat.le_of_ble_eq_true rfl) rfl ?_ | refine Hp.wp_store 1 sh rfl rfl rfl rfl (by kernel_rfl) (Nat.le_of_ble_eq_true rfl) rfl ?_ | refine Hp.wp_store 2 sh rfl rfl rfl rfl (by kernel_rfl) (Nat.le_of_ble_eq_true rfl) rfl ?_ | refine Hp.wp_store 3 sh rfl rfl rfl rfl (by kernel_rfl) (Nat.le_of_ble_eq_true rfl) rfl ?_ | refine Hp.wp_store 4 sh rfl rfl rfl rfl (by kernel_rfl) (Nat.le_of_ble_eq_true rfl) rfl ?_ | refine Hp.wp_store 5 sh rfl rfl rfl rfl (by kernel_rfl) (Nat.le_of_ble_eq_true rfl) rfl ?_ | refine Hp.wp_store 6 sh rfl rfl rfl rfl (by kernel_rfl) (Nat.le_of_ble_eq_true rfl) rfl ?_); clear sh; (try clear F); go_simp; intro w1 sh; have F := sh.facts; (try simp only [Hp.Facts, Hp.CellsAt, Nat.reduceAdd, List.cons_append, List.nil_append] at F))
        | fail)
    exact bodyPost_ret (Hp.res_ct rfl rfl (sh.load 1 rfl (by kernel_rfl) (by kernel_rfl))) rfl ⟨congrArg Ending.returned (show _ = Value.tuple _ by rw [HE.out.1, HE.out.2]; rfl), sh.below⟩

end Go.Proofs.YtkakcpghgipdeaaDoor
