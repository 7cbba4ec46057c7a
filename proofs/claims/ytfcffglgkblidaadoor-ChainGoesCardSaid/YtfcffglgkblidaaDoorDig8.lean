
/-
  The walks of Read, the program's and the reference's.
-/
import Derived.Test.YtfcffglgkblidaaDoorDigAr
import Derived.Test.YtfcffglgkblidaaDoorDigPlain2
namespace Go.Proofs.YtfcffglgkblidaaDoor
open Go.RowKit
set_option linter.unusedVariables false
set_option linter.unusedSimpArgs false

namespace DigP
def zero32 : List UInt8 := List.replicate 32 0
/-- A sign's number as the texts tell it; -1: it is none. -/
def valI (c : UInt8) : Int := if val c < 16 then (val c : Int) else -1
def signs : List UInt8 := [48, 49, 50, 51, 52, 53, 54, 55, 56, 57, 97, 98, 99, 100, 101, 102]
theorem valI_good {c : UInt8} (h : val c < 16) : valI c = (val c : Int) := if_pos h
theorem valI_bad {c : UInt8} (h : ¬ val c < 16) : valI c = -1 := if_neg h
def readD (s : List UInt8) : List UInt8 := (read s).getD zero32
def readE (s : List UInt8) : Int := if (read s).isSome then 0 else 3
theorem read_short {s : List UInt8} (h : s.length ≠ 64) : readD s = zero32 ∧ readE s = 3 := by
  have : read s = none := by unfold read; rw [if_neg (fun q => h q.1)]
  unfold readD readE; rw [this]; exact ⟨rfl, rfl⟩
theorem read_bad {s : List UInt8} {k : Nat} (h : k < s.length) (hv : ¬ val (s.getD k 0) < 16) : readD s = zero32 ∧ readE s = 3 := by
  have : read s = none := by
    unfold read
    rw [if_neg (fun q => hv ((good_iff s).1 q.2 k h))]
  unfold readD readE; rw [this]; exact ⟨rfl, rfl⟩
theorem read_good {s : List UInt8} (h : s.length = 64) (hv : ∀ i, i < 64 → val (s.getD i 0) < 16) : readD s = part s 64 ∧ readE s = 0 := by
  have : read s = some (part s 64) := by unfold read; rw [if_pos ⟨h, (good_iff s).2 (by rw [h]; exact hv)⟩]
  unfold readD readE; rw [this]; exact ⟨rfl, rfl⟩
theorem part_two (s : List UInt8) (i : Nat) (h : i < 32) (h0 : val (s.getD (2 * i) 0) < 16) (h1 : val (s.getD (2 * i + 1) 0) < 16) (hp : ∀ j, j < 2 * i → val (s.getD j 0) < 16) :
    part s (2 * (i + 1)) = (part s (2 * i)).set i (UInt8.ofNat (16 * val (s.getD (2 * i) 0) + val (s.getD (2 * i + 1) 0))) := by
  have e1 := part_next s (2 * i) (by omega) h0 hp
  have e2 := part_next s (2 * i + 1) (by omega) h1 (fun j hj => by
    by_cases q : j = 2 * i
    · rw [q]; exact h0
    · exact hp j (by omega))
  rw [show 2 * (i + 1) = 2 * i + 1 + 1 by omega, e2, show (2 * i + 1) / 2 = i by omega, part_get s (2 * i + 1) i h, if_neg (by omega), if_pos (by omega), toNat_of (by omega), e1, show 2 * i / 2 = i by omega, List.set_set]
  congr 2
  omega
theorem or8 {x n : Nat} (hn : n < 16) : bits .or .u8 ((x * 16 % 256 : Nat) : Int) (n : Int) = ((UInt8.ofNat (x * 16 % 256 + n)).toNat : Int) := by
  have h1 : x * 16 % 256 = 2 ^ 4 * (x % 16) := by omega
  have h2 : x * 16 % 256 ||| n = x * 16 % 256 + n := by rw [h1, ← Nat.two_pow_add_eq_or_of_lt (i := 4) (by omega)]
  show IntKind.u8.wrap ((BitVec.ofInt 8 ((x * 16 % 256 : Nat) : Int) ||| BitVec.ofInt 8 (n : Int)).toNat : Int) = _
  rw [BitVec.ofInt_natCast, BitVec.ofInt_natCast, BitVec.toNat_or, BitVec.toNat_ofNat, BitVec.toNat_ofNat, Nat.mod_eq_of_lt (show x * 16 % 256 < 2 ^ 8 by omega), Nat.mod_eq_of_lt (show n < 2 ^ 8 by omega), h2, toNat_of (by omega)]
  simp [IntKind.wrap, IntKind.bits, IntKind.signed]
  omega
theorem ret2 {a b : List UInt8} {c d : Int} (h : a = b ∧ c = d) : Ending.returned (.tuple #[.agg (bA a), .int .i64 c]) = .returned (.tuple #[.agg (bA b), .int .i64 d]) := by rw [h.1, h.2]
end DigP

theorem Tryd.z_dig (W : World) : (zeroValue 23).run Tryd.prog W = .ok (.agg (DigP.bA DigP.zero32)) W := by kernel_rfl
theorem Tryd.s_dig : (Tryd.prog.info? 23).map (·.size) = some 32 := by kernel_rfl
def DigP.ReadP (s : List UInt8) (w : World) (e : Ending) (w' : World) : Prop := e = .returned (.tuple #[.agg (DigP.bA (DigP.readD s)), .int .i64 (DigP.readE s)]) ∧ Below w.heap.size w w'
end Go.Proofs.YtfcffglgkblidaaDoor

/-
  The walks of Hex, the program's and the reference's.
-/
namespace Go.Proofs.YtfcffglgkblidaaDoor
open Go.RowKit
set_option linter.unusedVariables false
set_option linter.unusedSimpArgs false

namespace DigP
theorem sign_at {n : Nat} (h : n < 16) (h' : n < (bstr signs).size) : (bstr signs)[n]'h' = sign n := by
  rw [bget]
  have key : ∀ m : Fin 16, signs.getD m.val 0 = sign m.val := by decide
  exact key ⟨n, h⟩
theorem hex_next (d : List UInt8) {k : Nat} (h : k < d.length) : hex (d.take (k + 1)) = hex (d.take k) ++ [sign ((d.getD k 0).toNat / 16), sign ((d.getD k 0).toNat % 16)] := by
  rw [List.take_succ_eq_append_getElem h, List.getD_eq_getElem?_getD, List.getElem?_eq_getElem h]
  unfold hex
  rw [List.flatMap_append]; rfl
theorem and15 (c : UInt8) : bits .and .u8 (c.toNat : Int) 15 = ((c.toNat % 16 : Nat) : Int) := by
  have hc := c.toNat_lt
  show IntKind.u8.wrap ((BitVec.ofInt 8 (c.toNat : Int) &&& BitVec.ofInt 8 15).toNat : Int) = _
  rw [BitVec.ofInt_natCast, BitVec.toNat_and, BitVec.toNat_ofNat, show (BitVec.ofInt 8 15).toNat = 2 ^ 4 - 1 by decide, Nat.and_two_pow_sub_one_eq_mod, Nat.mod_eq_of_lt hc]
  simp [IntKind.wrap, IntKind.bits, IntKind.signed]
  omega
theorem bc_app (a b : List UInt8) : bcells a ++ bcells b = bcells (a ++ b) := by simp [bcells]
theorem made0 (n : Nat) : (madeCells (Value.int .u8 0).cells (n * 1)).size = n * 1 := by simp [madeCells]
end DigP

theorem Tryd.i_u8 : (Tryd.prog.info? 5).map (fun i => (i.zero, i.size, i.bytes)) = some (some (.int .u8 0), 1, 1) := by kernel_rfl
theorem didx (d : List UInt8) (hd : d.length = 32) (k : Nat) (hk : k < 32) (W : World) : (Instr.index 23 (.agg (DigP.bA d)) (.int .i64 (k : Int))).run Tryd.prog W = .ok (.int .u8 ((d.getD k 0).toNat : Int)) W := by
  have h1 : (Tryd.prog.info? 5).map (·.size) = some 1 := by kernel_rfl
  have h2 : (isAgg 5).run Tryd.prog W = .ok false W := by kernel_rfl
  have hg := DigP.bA_get (l := d) (k := k) (by rw [hd]; exact hk)
  have hkI : (k : Int) < 32 := by omega
  cases hq : Tryd.prog.info? 5 with
  | none => simp [hq] at h1
  | some q =>
    have hs : q.size = 1 := by simpa [hq] using h1
    simp [Instr.index, run_underlying Tryd.underlying23, asIntOf, part, sizeOf, typeInfo, hq, hs, h2, hkI, hg, go_sem]
    intro h; omega
end Go.Proofs.YtfcffglgkblidaaDoor
