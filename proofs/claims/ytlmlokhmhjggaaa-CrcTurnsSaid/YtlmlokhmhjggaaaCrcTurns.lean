/-
  The walk of CrcTurns: three texts, turned byte by byte against one another.
-/
import Derived.Test.YtlmlokhmhjggaaaCrcLaws
import Derived.StillTailTactics
import Derived.Deep.RegionHeld3
import Derived.Deep.DrawnRows
import Derived.Deep.AppendLies
namespace Go.Proofs.Ytlmlokhmhjggaaa
open Go.RowKit
set_option linter.unusedVariables false

theorem Try.info_u8 : (Try.prog.info? 5).map (fun i => (i.zero, i.size, i.bytes)) = some (some (.int .u8 0), 1, 1) := by kernel_rfl

theorem CrcP.bxor8 (a b : UInt8) : bits .xor .u8 (a.toNat : Int) (b.toNat : Int) = ((a ^^^ b).toNat : Int) := by
  have ha := a.toNat_lt; have hb := b.toNat_lt
  show IntKind.u8.wrap ((BitVec.ofInt 8 (a.toNat : Int) ^^^ BitVec.ofInt 8 (b.toNat : Int)).toNat : Int) = _
  rw [IntWalk.u8_in _ (by have := (BitVec.ofInt 8 (a.toNat : Int) ^^^ BitVec.ofInt 8 (b.toNat : Int)).isLt; omega)]
  simp only [BitVec.ofInt_natCast, BitVec.toNat_xor, BitVec.toNat_ofNat, UInt8.toNat_xor]
  rw [Nat.mod_eq_of_lt ha, Nat.mod_eq_of_lt hb]

def CrcP.cellsOf (l : List UInt8) : List Value := l.map fun c => .int .u8 (c.toNat : Int)

theorem CrcP.turn3_take (s t u : List UInt8) (k : Nat) (hs : k < s.length) (ht : k < t.length) (hu : k < u.length) :
    CrcP.turn3 (s.take (k + 1)) (t.take (k + 1)) (u.take (k + 1)) = CrcP.turn3 (s.take k) (t.take k) (u.take k) ++ [s[k] ^^^ t[k] ^^^ u[k]] := by
  induction k generalizing s t u with
  | zero =>
    cases s <;> cases t <;> cases u <;> simp at hs ht hu
    simp [CrcP.turn3]
  | succ k ih =>
    cases s with
    | nil => simp at hs
    | cons a s =>
      cases t with
      | nil => simp at ht
      | cons b t =>
        cases u with
        | nil => simp at hu
        | cons c u =>
          simp only [List.take_succ_cons, CrcP.turn3, List.getElem_cons_succ, List.cons_append]
          rw [ih s t u (by simpa using hs) (by simpa using ht) (by simpa using hu)]

theorem CrcP.turn3_length (s t u : List UInt8) (n : Nat) (hs : s.length = n) (ht : t.length = n) (hu : u.length = n) : (CrcP.turn3 s t u).length = n := by
  induction s generalizing t u n with
  | nil => subst hs; cases t <;> cases u <;> simp_all [CrcP.turn3]
  | cons a s ih =>
    cases t with
    | nil => simp at ht hs; omega
    | cons b t =>
      cases u with
      | nil => simp at hu hs; omega
      | cons c u =>
        cases n with
        | zero => simp at hs
        | succ n => simp only [CrcP.turn3, List.length_cons] at *; rw [ih t u n (by omega) (by omega) (by omega)]

theorem CrcP.min4 (P : Program) (ts : Array TypeId) (ty : TypeId) (a b c : Nat) : ∃ n : Nat, n ≤ a ∧ n ≤ b ∧ n ≤ c ∧ n ≤ 2000 ∧
    ∀ W : World, (Builtin.min_ ts ty #[.int .i64 a, .int .i64 b, .int .i64 c, .int .i64 2000]).run P W = .ok (.int .i64 (n : Int)) W := by
  refine ⟨min (min (min a b) c) 2000, by omega, by omega, by omega, by omega, fun W => ?_⟩
  simp [Builtin.min_, Builtin.min2]
  split <;> split <;> (try split) <;> (try split) <;> omega

set_option maxHeartbeats 1000000 in
theorem crcTurns_walk (s t u : ByteArray) (w : World) (hs : s.size ≤ 140737488351232) (ht : t.size ≤ 140737488351232) (hu : u.size ≤ 140737488351232) :
    Calls Try.prog 6 #[.string s, .string t, .string u] w fun e w' => e = .returned (.bool true) ∧ Below w.heap.size w w' := by
  obtain ⟨i0, hi, hz0, hz1, hz2⟩ := info_parts Try.info_u8
  obtain ⟨n, hns, hnt, hnu, hn2, hmin⟩ := CrcP.min4 Try.prog #[3, 3, 3, 3] 3 s.size t.size u.size
  go_enter Try.func6, Try.ntmps6
  go_wp2
  clear hmin
  go_loopw [8, 9] (fun v i wr => ∃ k : Nat, k ≤ n ∧ i = .int .i64 k ∧
      wr.ownsRow w.heap.size 5 1 v k (CrcP.cellsOf (CrcP.turn3 (s.data.toList.take k) (t.data.toList.take k) (u.data.toList.take k))) ∧ Below w.heap.size w wr)
    (fun _ i _ => n - (intOf i).toNat)
  case atStart => exact ⟨0, Nat.zero_le _, rfl, World.ownsRow_nil _ _ _ _, Below.refl _ _⟩
  case round =>
    obtain ⟨k, hk, rfl, hown, hb⟩ := hrel
    by_cases hlt : k < n
    · have hx1 : (0 : Int) ≤ (k : Int) := by omega
      have hx2 : (k : Int) < (s.size : Int) := by omega
      have hx3 : (k : Int) < (t.size : Int) := by omega
      have hx4 : (k : Int) < (u.size : Int) := by omega
      obtain ⟨c1, hc1⟩ : ∃ c, c = s[k] ^^^ t[k] := ⟨_, rfl⟩
      obtain ⟨c, hc⟩ : ∃ c, c = c1 ^^^ u[k] := ⟨_, rfl⟩
      have hb1 : bits .xor .u8 (s[k].toNat : Int) (t[k].toNat : Int) = (c1.toNat : Int) := by rw [hc1]; exact CrcP.bxor8 _ _
      have hb2 : bits .xor .u8 (c1.toNat : Int) (u[k].toNat : Int) = (c.toNat : Int) := by rw [hc]; exact CrcP.bxor8 _ _
      have HC := Lib.hid hc
      have HC1 := Lib.hid hc1
      clear hc hc1
      go_wp2
      go_region_held3 (fun _ => True) (trivial)
        ((refine step_append_lies _ (by rfl) _ _ _ (by rfl) w.heap.size 5 i0 _ 1 1 Try.underlying32 hi hz0 hz1 hz2 rfl (by omega) _ _ _ (by rfl) ((hown.alloc _).drew) ⟨wr.heap.size, 0, none⟩ 1 1 [.int .u8 c.toNat] (by rfl) (by rfl) (World.news_of_block (cs := #[.int .u8 c.toNat]) (t := 5) (fr := (0, 0)) (heap_alloc_new wr _)) (by simp [Value.oneCell']) (by omega) (by unfold maxLen; omega) (by omega) (by have := hb.size; simp; omega) (wr.heap.size + 1) (by simp) ?_; intro g cap w1 hown1 hgrow hat hlt1))
      all_goals
        go_wp2
        have hR := CrcP.turn3_take s.data.toList t.data.toList u.data.toList k (by simpa using (by omega : k < s.size)) (by simpa using (by omega : k < t.size)) (by simpa using (by omega : k < u.size))
        have hbw : Below w.heap.size w w1 := ((hb.alloc hb.size _).drew).grown hgrow (by have := hb.size; simp; omega) (fun j hj => (hown.lt j hj).1)
        have hcell : CrcP.cellsOf (CrcP.turn3 (s.data.toList.take (k + 1)) (t.data.toList.take (k + 1)) (u.data.toList.take (k + 1))) =
            CrcP.cellsOf (CrcP.turn3 (s.data.toList.take k) (t.data.toList.take k) (u.data.toList.take k)) ++ [.int .u8 c.toNat] := by
          rw [hR, CrcP.cellsOf, List.map_append, HC.out, HC1.out]; rfl
        go_roundw
        case rel => exact ⟨k + 1, by omega, by go_num, by rw [hcell]; exact hown1, hbw⟩
        case measure => simp [intOf]; omega
    · obtain rfl : k = n := by omega
      go_wp2
      have hlen : (CrcP.turn3 (s.data.toList.take k) (t.data.toList.take k) (u.data.toList.take k)).length = k := CrcP.turn3_length _ _ _ k (by simp; omega) (by simp; omega) (by simp; omega)
      generalize hall : CrcP.turn3 (s.data.toList.take k) (t.data.toList.take k) (u.data.toList.take k) = all at hown hlen
      have hconv : ∀ W, Bel wr W → (convert 32 9 u8).run Try.prog W = .ok (.string ⟨all.toArray⟩) W := fun W hW => by
        have hown2 := hown.2
        rcases hown2 with ⟨hv, h0⟩ | ⟨g, cap, cur, hv, hg1, hg2, hg3, hg4, hg5, hg6⟩
        · subst h0
          have : all = [] := List.length_eq_zero_iff.1 hlen
          subst this
          rw [hv]
          exact run_convert_bytes_nil W 32 5 Try.underlying32 Try.underlying5 0 0 9 Try.underlying9
        · rw [hv]
          have hgl : g < wr.heap.size := (Array.getElem?_eq_some_iff.1 hg2).1
          have hown' := hown
          rw [hv] at hown'
          have := run_convert_bytes_back (P := Try.prog) W 32 9 5 ⟨g, 0, none⟩ cap all Try.underlying32 Try.underlying5 Try.underlying9 (fun j hj => by
            have e1 : (⟨g, 0, none⟩ : Addr).add j = ⟨g, j, none⟩ := by unfold Addr.add; split <;> simp_all
            rw [e1, hW.cell hgl, hown'.cellAt j (by omega)]
            simp [CrcP.cellsOf, hj])
          rw [hlen] at this
          exact this
      have hzs : (ByteArray.mk all.toArray).size ≤ 9223372036854775807 := by show all.toArray.size ≤ _; simp; omega
      have hz1' : (s.extract 0 k).size ≤ 9223372036854775807 := by simp [ByteArray.size_extract]; omega
      have hz2' : (t.extract 0 k).size ≤ 9223372036854775807 := by simp [ByteArray.size_extract]; omega
      have hz3' : (u.extract 0 k).size ≤ 9223372036854775807 := by simp [ByteArray.size_extract]; omega
      have hturn : CrcP.ofL all = CrcP.ofL (s.extract 0 k).data.toList ^^^ CrcP.ofL (t.extract 0 k).data.toList ^^^ CrcP.ofL (u.extract 0 k).data.toList := by
        rw [← hall, CrcP.ofL_turn3 _ _ _ (by simp; omega) (by simp; omega)]
        simp [ByteArray.data_extract]
      have C0 := fun W => crcOf_any ⟨all.toArray⟩ W hzs
      have C1 := fun W => crcOf_any (s.extract 0 k) W hz1'
      have C2 := fun W => crcOf_any (t.extract 0 k) W hz2'
      have C3 := fun W => crcOf_any (u.extract 0 k) W hz3'
      rw [show (ByteArray.mk all.toArray).data.toList = all from rfl] at C0
      generalize CrcP.ofL (s.extract 0 k).data.toList = X at hturn C1
      generalize CrcP.ofL (t.extract 0 k).data.toList = Y at hturn C2
      generalize CrcP.ofL (u.extract 0 k).data.toList = Z at hturn C3
      obtain ⟨XY, hXY⟩ : ∃ q, q = X ^^^ Y := ⟨_, rfl⟩
      rw [← hXY] at hturn
      have b1 : bits .xor .u32 (X.toNat : Int) (Y.toNat : Int) = (XY.toNat : Int) := by rw [hXY]; exact CrcP.bxor _ _
      have b2 : bits .xor .u32 (XY.toNat : Int) (Z.toNat : Int) = ((CrcP.ofL all).toNat : Int) := by rw [hturn]; exact CrcP.bxor _ _
      clear hturn hXY hall hz1' hz2' hz3' hzs hlen hown hi hz0 hz1 hz2 i0
      refine wp_region_quiet (C := Bel wr) (by kernel_rfl) (by kernel_rfl) ((Below.refl _ wr).drew) ?_
      simp only []
      (go_big_quiet_want; refine quietB_call _ _ _ (fun W hW => by go_simp) (fun W hW => crcSummed_any W) ?_; simp only [Act.put, List.setIfInBounds_toArray, List.set_cons_zero, List.set_cons_succ]; go_big_quiet_on)
      repeat (first | go_big_quiet_skip | (go_big_quiet_want; go_big_quiet_op; first | go_big_quiet_on | (refine ⟨_, fun _ _ => rfl, ?_⟩; go_big_quiet_on)))
      (go_big_quiet_want; refine quietB_val (.string ⟨all.toArray⟩) (fun W hW => by have := hconv W hW; go_simp) ?_; simp only [Act.put, List.setIfInBounds_toArray, List.set_cons_zero, List.set_cons_succ]; go_big_quiet_on)
      (go_big_quiet_want; refine quietB_call _ _ _ (fun W hW => by go_simp) (fun W hW => C0 W) ?_; simp only [Act.put, List.setIfInBounds_toArray, List.set_cons_zero, List.set_cons_succ]; go_big_quiet_on)
      repeat (first | go_big_quiet_skip | (go_big_quiet_want; go_big_quiet_op; first | go_big_quiet_on | (refine ⟨_, fun _ _ => rfl, ?_⟩; go_big_quiet_on)))
      (go_big_quiet_want; refine quietB_call _ _ _ (fun W hW => by go_simp) (fun W hW => C1 W) ?_; simp only [Act.put, List.setIfInBounds_toArray, List.set_cons_zero, List.set_cons_succ]; go_big_quiet_on)
      repeat (first | go_big_quiet_skip | (go_big_quiet_want; go_big_quiet_op; first | go_big_quiet_on | (refine ⟨_, fun _ _ => rfl, ?_⟩; go_big_quiet_on)))
      (go_big_quiet_want; refine quietB_call _ _ _ (fun W hW => by go_simp) (fun W hW => C2 W) ?_; simp only [Act.put, List.setIfInBounds_toArray, List.set_cons_zero, List.set_cons_succ]; go_big_quiet_on)
      repeat (first | go_big_quiet_skip | (go_big_quiet_want; go_big_quiet_op; first | go_big_quiet_on | (refine ⟨_, fun _ _ => rfl, ?_⟩; go_big_quiet_on)))
      (go_big_quiet_want; refine quietB_call _ _ _ (fun W hW => by go_simp) (fun W hW => C3 W) ?_; simp only [Act.put, List.setIfInBounds_toArray, List.set_cons_zero, List.set_cons_succ]; go_big_quiet_on)
      repeat (first | go_big_quiet_skip | (go_big_quiet_want; go_big_quiet_op; first | go_big_quiet_on | (refine ⟨_, fun _ _ => rfl, ?_⟩; go_big_quiet_on)))
      refine wpQuiet_nil ?_
      intro W hW
      go_wp2
      go_ret
      exact ⟨rfl, hb.trans (Below.mono hW hb.size)⟩

end Go.Proofs.Ytlmlokhmhjggaaa
