
/-
  The walks of turns, and of the reference's turn and constant.
-/
import Derived.Test.YtfcffglgkblidaaDoorRows
import Derived.Test.YtfcffglgkblidaaDoorDigPlain2
import Derived.Test.YtfcffglgkblidaaDoorDigShelf
import Derived.Test.YtfcffglgkblidaaDoorHeap
import Derived.Test.YtfcffglgkblidaaDoorBytes
import Derived.Test.YtfcffglgkblidaaDoorSoft
namespace Go.Proofs.YtfcffglgkblidaaDoor
open Go.RowKit
set_option linter.unusedVariables false
set_option linter.unusedSimpArgs false

namespace DigP
theorem neg_wrap {n : Nat} (h1 : 1 ≤ n) (h2 : n ≤ 31) : IntKind.u64.wrap (-(n : Int)) = 18446744073709551616 - (n : Int) := by simp [IntKind.wrap, IntKind.bits, IntKind.signed]; omega
theorem and31_fin : ∀ n : Fin 32, 0 < n.val → bits .and .u64 (18446744073709551616 - (n.val : Int)) 31 = 32 - (n.val : Int) := by decide +kernel
theorem and31 {n : Nat} (h1 : 1 ≤ n) (h2 : n ≤ 31) : bits .and .u64 (18446744073709551616 - (n : Int)) 31 = 32 - (n : Int) := and31_fin ⟨n, by omega⟩ h1
theorem turn_or (x : Wd) {n : Nat} : (x <<< (32 - n)) ||| (x >>> n) = turn x n := BitVec.or_comm _ _
theorem ret32 {a b : Int} (h : a = b) : Ending.returned (.int .u32 a) = .returned (.int .u32 b) := by rw [h]
theorem turns_one (x : Wd) (l : List Nat) (n : Nat) : turns x (l ++ [n]) = turns x l ^^^ turn x n := by unfold turns; rw [List.foldl_append]; rfl
end DigP

set_option maxHeartbeats 4000000 in
set_option maxRecDepth 100000 in
theorem drot (x : DigP.Wd) (n : Nat) (h1 : 1 ≤ n) (h2 : n ≤ 31) (w : World) : Calls Tryd.prog 87 #[.int .u32 x.toNat, .int .i64 (-(n : Int))] w fun e w' => e = .returned (.int .u32 (DigP.turn x n).toNat) ∧ Below w.heap.size w w' := by
  have sh : Hp.Sh w w [] (fun _ => True) := Hp.Sh.start (fun _ _ => trivial)
  have f1 := DigP.neg_wrap h1 h2
  have f2 := DigP.and31 h1 h2
  have f3 : (32 : Int) - (32 - (n : Int)) = n := by omega
  have f4 : (32 - (n : Int)).toNat = 32 - n := by omega
  go_enter Tryd.func87, Tryd.ntmps87
  go_wp2_with (first
      | ((with_reducible first | refine Hp.wpl_box sh ?_ ?_ | refine Hp.atl_store ?_ ?_); exact rfl; (try (refine Hp.wsB sh ?_)); clear sh; (try clear F); go_simp; (first | intro b w1 sh | intro w1 sh); have F := sh.fx)
      | fail)
  go_ret
  exact ⟨DigP.ret32 (by rw [DigP.bshl', DigP.bshr', DigP.bor, DigP.turn_or]), sh.below⟩

set_option maxHeartbeats 4000000 in
set_option maxRecDepth 100000 in
theorem dturn (x : DigP.Wd) (n : Nat) (h1 : 1 ≤ n) (h2 : n ≤ 31) (w : World) : Calls Tryd.prog 85 #[.int .u32 x.toNat, .int .i64 (n : Int)] w fun e w' => e = .returned (.int .u32 (DigP.turn x n).toNat) ∧ Below w.heap.size w w' := by
  have sh : Hp.Sh w w [] (fun _ => True) := Hp.Sh.start (fun _ _ => trivial)
  have f4 : (32 - (n : Int)).toNat = 32 - n := by omega
  go_enter Tryd.func85, Tryd.ntmps85
  go_wp2_with (first
      | ((with_reducible first | refine Hp.wpl_box sh ?_ ?_ | refine Hp.atl_store ?_ ?_); exact rfl; (try (refine Hp.wsB sh ?_)); clear sh; (try clear F); go_simp; (first | intro b w1 sh | intro w1 sh); have F := sh.fx)
      | fail)
  refine wp_region_quiet (C := Hp.Cls _ _ _) (by kernel_rfl) (by kernel_rfl) sh.drew ?_; clear sh; (try clear F)
  (try simp only [])
  iterate 9 (first | go_big_quiet_skip | (go_big_quiet_want; go_big_quiet_op; first | go_big_quiet_on | (refine ⟨_, fun _ _ => rfl, ?_⟩; go_big_quiet_on)))
  refine wpQuiet_nil ?_; intro w1 sh; have F := sh.fx
  go_wp2_with (first
      | ((with_reducible first | refine Hp.wpl_box sh ?_ ?_ | refine Hp.atl_store ?_ ?_); exact rfl; (try (refine Hp.wsB sh ?_)); clear sh; (try clear F); go_simp; (first | intro b w1 sh | intro w1 sh); have F := sh.fx)
      | fail)
  go_ret
  exact ⟨DigP.ret32 (by rw [DigP.bshl', DigP.bshr', DigP.bor]; rfl), sh.below⟩

theorem RdV_rob {W : World} {s : Option Addr} {vs : List Value} (h : Hp.RdV W s vs) : Hp.Rob (fun _ => False) W (fun W => Hp.RdV W s vs) := fun W' ho => h.below ho (fun _ _ h => h)
namespace DigP
def ns (l : List Nat) : List Value := l.map fun n : Nat => .int .i64 (n : Int)
theorem ns_get {l : List Nat} {k : Nat} (h : k < l.length) : (ns l)[k]? = some (.int .i64 (l[k] : Int)) := by simp [ns, h]
end DigP
set_option maxHeartbeats 4000000 in
set_option maxRecDepth 100000 in
theorem dturns (x : DigP.Wd) (l : List Nat) (p : Addr) (n c : Nat) (hn : n = l.length) (hm : n ≤ 100) (hl : ∀ n ∈ l, 1 ≤ n ∧ n ≤ 31) (w : World) (hR : Hp.RdV w (some p) (DigP.ns l)) :
    Calls Tryd.prog 78 #[.int .u32 x.toNat, .slice (some p) n c] w fun e w' => e = .returned (.int .u32 (DigP.turns x l).toNat) ∧ Below w.heap.size w w' := by
  have sh := Hp.Sh.start (RdV_rob hR)
  have HN := Lib.hid hn
  have HL := Lib.hid hl
  clear hn hl hR
  go_enter Tryd.func78, Tryd.ntmps78
  have F := sh.fx
  go_wp2_with (first
      | ((with_reducible first | refine Hp.wpl_box sh ?_ ?_ | refine Hp.atl_store ?_ ?_); exact rfl; (try (refine Hp.wsB sh ?_)); clear sh; (try clear F); go_simp; (first | intro b w1 sh | intro w1 sh); have F := sh.fx)
      | fail)
  go_loopw [5, 10] (fun v i wr => ∃ (k : Nat) (o : DigP.Wd), v = .int .u32 o.toNat ∧ i = .int .i64 k ∧ k ≤ n ∧ Hid (o = DigP.turns x (l.take k)) ∧ Hp.Sh w wr [] (fun W => Hp.RdV W (some p) (DigP.ns l))) (fun _ i _ => n - (intOf i).toNat)
  case atStart => exact ⟨0, 0, rfl, rfl, by omega, rfl, sh⟩
  case round =>
    clear sh F
    obtain ⟨k, o, rfl, rfl, hk, HO, sh⟩ := hrel
    have F := sh.fx
    by_cases hlt : k < n
    · have hlI : (k : Int) < (n : Int) := by omega
      have hkl : k < l.length := by rw [← HN.out]; exact hlt
      have hc := sh.data.cell k (DigP.ns_get hkl)
      have hb := HL.out _ (List.getElem_mem hkl)
      have HT := Lib.hid (show DigP.turns x (l.take (k + 1)) = DigP.turns x (l.take k) ^^^ DigP.turn x l[k] by rw [List.take_succ_eq_append_getElem hkl, DigP.turns_one])
      generalize l[k] = m at hc hb HT
      clear hkl
      go_wp2_with (first
          | ((with_reducible first | refine Hp.wpl_box sh ?_ ?_ | refine Hp.atl_store ?_ ?_); exact rfl; (try (refine Hp.wsB sh ?_)); clear sh; (try clear F); go_simp; (first | intro b w1 sh | intro w1 sh); have F := sh.fx)
          | fail)
      go_fit (drot x m hb.1 hb.2 _)
      rintro e w1 ⟨rfl, hb⟩
      replace sh := sh.call hb; clear hb; (try clear F); have F := sh.fx
      go_wp2_with (first
          | ((with_reducible first | refine Hp.wpl_box sh ?_ ?_ | refine Hp.atl_store ?_ ?_); exact rfl; (try (refine Hp.wsB sh ?_)); clear sh; (try clear F); go_simp; (first | intro b w1 sh | intro w1 sh); have F := sh.fx)
          | fail)
      go_roundw
      case rel => exact ⟨k + 1, o ^^^ DigP.turn x m, by rw [DigP.bxor], by go_num, by omega, by show _ = _; rw [HT.out, HO.out], sh⟩
      case measure => simp [intOf]; omega
    · have hE : o = DigP.turns x l := by rw [HO.out, List.take_of_length_le (by rw [← HN.out]; omega)]
      subst hE
      go_wp2_with (first
          | ((with_reducible first | refine Hp.wpl_box sh ?_ ?_ | refine Hp.atl_store ?_ ?_); exact rfl; (try (refine Hp.wsB sh ?_)); clear sh; (try clear F); go_simp; (first | intro b w1 sh | intro w1 sh); have F := sh.fx)
          | fail)
      go_ret
      exact ⟨rfl, sh.below⟩

end Go.Proofs.YtfcffglgkblidaaDoor

/-
  The walks of the reference's constant and words.
-/
namespace Go.Proofs.YtfcffglgkblidaaDoor
open Go.RowKit
set_option linter.unusedVariables false
set_option linter.unusedSimpArgs false

namespace DigP
def wds (l : List Wd) : List Value := l.map fun x => .int .u32 (x.toNat : Int)
theorem wds_length (l : List Wd) : (wds l).length = l.length := by simp [wds]
theorem wds_get {l : List Wd} {k : Nat} (h : k < l.length) : (wds l)[k]? = some (.int .u32 ((l.getD k 0).toNat : Int)) := by simp [wds, List.getD_eq_getElem?_getD, h]
theorem wds_snoc (l : List Wd) (x : Wd) : wds l ++ [.int .u32 (x.toNat : Int)] = wds (l ++ [x]) := by simp [wds]
theorem bget (l : List UInt8) (i : Nat) (h : i < (bstr l).size) : (bstr l)[i]'h = l.getD i 0 := by
  have h' : i < l.length := by rwa [bstr_size] at h
  have : (bstr l)[i]'h = l[i] := rfl
  rw [this, List.getD_eq_getElem?_getD, List.getElem?_eq_getElem h']; rfl
theorem orN {x y : Nat} (hx : x < 4294967296) (hy : y < 4294967296) : bits .or .u32 (x : Int) (y : Int) = ((x ||| y : Nat) : Int) := by
  have := bor (BitVec.ofNat 32 x) (BitVec.ofNat 32 y)
  rw [BitVec.toNat_or, BitVec.toNat_ofNat, BitVec.toNat_ofNat, Nat.mod_eq_of_lt (by simpa using hx), Nat.mod_eq_of_lt (by simpa using hy)] at this
  exact this
theorem pack (a b c d : UInt8) : bits .or .u32 (bits .or .u32 (bits .or .u32 ((a.toNat : Int) * 16777216) ((b.toNat : Int) * 65536)) ((c.toNat : Int) * 256)) (d.toNat : Int) = ((word a b c d).toNat : Int) := by
  have ha := a.toNat_lt
  have hb := b.toNat_lt
  have hc := c.toNat_lt
  have hd := d.toNat_lt
  have o1 : a.toNat * 16777216 ||| b.toNat * 65536 = a.toNat * 16777216 + b.toNat * 65536 := by
    have := Nat.two_pow_add_eq_or_of_lt (i := 24) (b := b.toNat * 65536) (by omega) a.toNat
    rw [Nat.mul_comm a.toNat 16777216]; exact this.symm
  have o2 : a.toNat * 16777216 + b.toNat * 65536 ||| c.toNat * 256 = a.toNat * 16777216 + b.toNat * 65536 + c.toNat * 256 := by
    have := Nat.two_pow_add_eq_or_of_lt (i := 16) (b := c.toNat * 256) (by omega) (a.toNat * 256 + b.toNat)
    rw [show a.toNat * 16777216 + b.toNat * 65536 = 2 ^ 16 * (a.toNat * 256 + b.toNat) by omega]; exact this.symm
  have o3 : a.toNat * 16777216 + b.toNat * 65536 + c.toNat * 256 ||| d.toNat = a.toNat * 16777216 + b.toNat * 65536 + c.toNat * 256 + d.toNat := by
    have := Nat.two_pow_add_eq_or_of_lt (i := 8) (b := d.toNat) (by omega) (a.toNat * 65536 + b.toNat * 256 + c.toNat)
    rw [show a.toNat * 16777216 + b.toNat * 65536 + c.toNat * 256 = 2 ^ 8 * (a.toNat * 65536 + b.toNat * 256 + c.toNat) by omega]; exact this.symm
  rw [show (a.toNat : Int) * 16777216 = ((a.toNat * 16777216 : Nat) : Int) by omega, show (b.toNat : Int) * 65536 = ((b.toNat * 65536 : Nat) : Int) by omega, show (c.toNat : Int) * 256 = ((c.toNat * 256 : Nat) : Int) by omega,
    orN (by omega) (by omega), o1, orN (by omega) (by omega), o2, orN (by omega) (by omega), o3]
  unfold word
  rw [BitVec.toNat_ofNat, Nat.mod_eq_of_lt (by omega)]
theorem first_length (l : List UInt8) : (first l).length = 16 := by simp [first]
theorem first_snoc (l : List UInt8) {k : Nat} (h : k < 16) : wds ((first l).take k) ++ [.int .u32 ((word (l.getD (4 * k) 0) (l.getD (4 * k + 1) 0) (l.getD (4 * k + 2) 0) (l.getD (4 * k + 3) 0)).toNat : Int)] = wds ((first l).take (k + 1)) := by
  rw [wds_snoc, List.take_succ_eq_append_getElem (by rw [first_length]; exact h)]
  simp [first]
theorem wordsN_length (l : List UInt8) (k : Nat) : (wordsN l k).length = 16 + k := by
  induction k with
  | zero => exact first_length l
  | succ k ih => rw [wordsN, List.length_append, ih]; rfl
theorem four {W : World} {g : Nat} {ws : List Wd} (h : Hp.RdV W (some ⟨g, 0, none⟩) (wds ws)) {k : Nat} (hk : k + 14 < ws.length) : W.cell? ⟨g, k, none⟩ = some (.int .u32 ((ws.getD k 0).toNat : Int)) ∧ W.cell? ⟨g, k + 1, none⟩ = some (.int .u32 ((ws.getD (k + 1) 0).toNat : Int)) ∧ W.cell? ⟨g, k + 9, none⟩ = some (.int .u32 ((ws.getD (k + 9) 0).toNat : Int)) ∧ W.cell? ⟨g, k + 14, none⟩ = some (.int .u32 ((ws.getD (k + 14) 0).toNat : Int)) := by
  have key : ∀ i, i < ws.length → W.cell? ⟨g, i, none⟩ = some (.int .u32 ((ws.getD i 0).toNat : Int)) := fun i hi => by
    have := h.cell i (wds_get hi)
    rwa [Hp.add_head] at this
  exact ⟨key _ (by omega), key _ (by omega), key _ (by omega), key _ hk⟩
theorem w8 (c : UInt8) : IntKind.u32.wrap (c.toNat : Int) = c.toNat := IntWalk.u32_in _ (by have := c.toNat_lt; omega)
theorem w24 (c : UInt8) : IntKind.u32.wrap ((c.toNat : Int) * 16777216) = (c.toNat : Int) * 16777216 := IntWalk.u32_in _ (by have := c.toNat_lt; omega)
theorem w16 (c : UInt8) : IntKind.u32.wrap ((c.toNat : Int) * 65536) = (c.toNat : Int) * 65536 := IntWalk.u32_in _ (by have := c.toNat_lt; omega)
theorem w08 (c : UInt8) : IntKind.u32.wrap ((c.toNat : Int) * 256) = (c.toNat : Int) * 256 := IntWalk.u32_in _ (by have := c.toNat_lt; omega)
end DigP

theorem Hp.RowIs.head {e : TypeId} {v : Value} {n : Nat} {xs : List Value} {R : List Hp.Blk} (h : Hp.RowIs e 1 v n xs R) (hn : 0 < n) : ∃ g cap, v = .slice (some ⟨g, 0, none⟩) n cap ∧ n ≤ cap := by
  rcases h.2 with ⟨-, rfl, -⟩ | ⟨g, cap, cur, rfl, _, h1, _⟩
  · omega
  · exact ⟨g, cap, rfl, h1⟩

theorem Tryd.i_u32 : (Tryd.prog.info? 61).map (fun i => (i.zero, i.size, i.bytes)) = some (some (.int .u32 0), 1, 4) := by kernel_rfl
set_option maxHeartbeats 4000000 in
set_option maxRecDepth 100000 in
theorem dconst (t : Nat) (h : t < 64) (w : World) : Calls Tryd.prog 86 #[.int .i64 t] w fun e w' => e = .returned (.int .u32 (DigP.consts.getD t 0).toNat) ∧ Below w.heap.size w w' := by
  have sh : Hp.Sh w w [] (fun _ => True) := Hp.Sh.start (fun _ _ => trivial)
  have HC := Lib.hid (fun W b (h2 : Hp.RdV W (some ⟨b, 0, none⟩) (DigP.wds DigP.consts)) => (by have := Hp.RdV.cell h2 t (DigP.wds_get (l := DigP.consts) h); rwa [Hp.add_head] at this : W.cell? ⟨b, t, none⟩ = some (.int .u32 ((DigP.consts.getD t 0).toNat : Int))))
  generalize DigP.consts.getD t 0 = x at HC
  have h2 : (t : Int) < 64 := by omega
  go_enter Tryd.func86, Tryd.ntmps86
  have F := sh.fx
  go_wp2_with (first
      | ((with_reducible refine Hp.atl_lit ?_ ?_); exact rfl; refine Hp.wp_lit 64 (DigP.wds DigP.consts) Tryd.i_u32 Tryd.underlying109 sh (by kernel_rfl) rfl (by omega) (by kernel_rfl) ?_; clear sh F; intro bl w1 sh; replace sh := sh.freeze1 (vs := DigP.wds DigP.consts) (fun i v h => by simpa using h); have hc := HC.out _ _ sh.data.1; (have F := sh.fx); go_simp)
      | ((with_reducible first | refine Hp.wpl_box sh ?_ ?_ | refine Hp.atl_store ?_ ?_); exact rfl; (try (refine Hp.wsB sh ?_)); clear sh; (try clear F); go_simp; (first | intro b w1 sh | intro w1 sh); have F := sh.fx)
      | fail)
  go_ret
  exact ⟨rfl, sh.below⟩

def DigP.WordsP (l : List UInt8) (w : World) (e : Ending) (w' : World) : Prop := ∃ g cp, e = .returned (.slice (some ⟨g, 0, none⟩) 64 cp) ∧ w.heap.size ≤ g ∧ Hp.RdV w' (some ⟨g, 0, none⟩) (DigP.wds (DigP.words l)) ∧ Below w.heap.size w w'
set_option maxHeartbeats 4000000 in
set_option maxRecDepth 100000 in
theorem drwords (l : List UInt8) (hl : l.length = 64) (w : World) : Calls Tryd.prog 84 #[.string (bstr l)] w fun e w' => DigP.WordsP l w e w' := by
  have sh : Hp.Sh w w [] (fun _ => True) := Hp.Sh.start (fun _ _ => trivial)
  have hs : (bstr l).size = 64 := by rw [bstr_size]; exact hl
  go_enter Tryd.func84, Tryd.ntmps84
  have F := sh.fx
  go_wp2_with (first
      | ((with_reducible first | refine Hp.wpl_box sh ?_ ?_ | refine Hp.atl_store ?_ ?_); exact rfl; (try (refine Hp.wsB sh ?_)); clear sh; (try clear F); go_simp; (first | intro b w1 sh | intro w1 sh); have F := sh.fx)
      | fail)
  go_loopw [3, 4] (fun v i wr => ∃ (k : Nat) (R : List Hp.Blk), i = .int .i64 k ∧ k ≤ 16 ∧ Hid (Hp.RowIs 61 1 v k (DigP.wds ((DigP.first l).take k)) R) ∧ Hp.Sh w wr (R ++ []) (fun _ => True)) (fun _ i _ => 16 - (intOf i).toNat)
  case atStart => exact ⟨0, [], rfl, by omega, (Hp.RowIs.nil 61 1 : _), sh⟩
  case round =>
    clear sh F
    obtain ⟨k, R, rfl, hk, HR, sh⟩ := hrel
    have F : True := trivial
    by_cases hlt : k < 16
    · have hlI : (k : Int) < 16 := by omega
      have g0 : IntKind.i64.wrap (4 * (k : Int)) = 4 * (k : Int) := IntWalk.i64_in _ (by omega)
      have g1 : IntKind.i64.wrap (4 * (k : Int) + 1) = 4 * (k : Int) + 1 := IntWalk.i64_in _ (by omega)
      have g2 : IntKind.i64.wrap (4 * (k : Int) + 2) = 4 * (k : Int) + 2 := IntWalk.i64_in _ (by omega)
      have g3 : IntKind.i64.wrap (4 * (k : Int) + 3) = 4 * (k : Int) + 3 := IntWalk.i64_in _ (by omega)
      have e0 : (4 * (k : Int)).toNat = 4 * k := by omega
      have e1 : (4 * (k : Int) + 1).toNat = 4 * k + 1 := by omega
      have e2 : (4 * (k : Int) + 2).toNat = 4 * k + 2 := by omega
      have e3 : (4 * (k : Int) + 3).toNat = 4 * k + 3 := by omega
      have p0 : (0 : Int) ≤ 4 * (k : Int) := by omega
      have p1 : (0 : Int) ≤ 4 * (k : Int) + 1 := by omega
      have p2 : (0 : Int) ≤ 4 * (k : Int) + 2 := by omega
      have p3 : (0 : Int) ≤ 4 * (k : Int) + 3 := by omega
      have q0 : 4 * k < 64 := by omega
      have q1 : 4 * k + 1 < 64 := by omega
      have q2 : 4 * k + 2 < 64 := by omega
      have q3 : 4 * k + 3 < 64 := by omega
      have r0 : 4 * (k : Int) < 64 := by omega
      have r1 : 4 * (k : Int) + 1 < 64 := by omega
      have r2 : 4 * (k : Int) + 2 < 64 := by omega
      have r3 : 4 * (k : Int) + 3 < 64 := by omega
      have h0 := DigP.bget l (4 * k) (by omega)
      have h1 := DigP.bget l (4 * k + 1) (by omega)
      have h2 := DigP.bget l (4 * k + 2) (by omega)
      have h3 := DigP.bget l (4 * k + 3) (by omega)
      have HT := Lib.hid (DigP.first_snoc l hlt)
      generalize l.getD (4 * k) 0 = c0 at h0 HT
      generalize l.getD (4 * k + 1) 0 = c1 at h1 HT
      generalize l.getD (4 * k + 2) 0 = c2 at h2 HT
      generalize l.getD (4 * k + 3) 0 = c3 at h3 HT
      have z0 := DigP.w8 c0
      have z1 := DigP.w8 c1
      have z2 := DigP.w8 c2
      have z3 := DigP.w8 c3
      have z4 := DigP.w24 c0
      have z5 := DigP.w16 c1
      have z6 := DigP.w08 c2
      have z7 := DigP.pack c0 c1 c2 c3
      generalize DigP.word c0 c1 c2 c3 = x at z7 HT
      go_wp2_with (first
          | ((with_reducible first | refine Hp.wpl_box sh ?_ ?_ | refine Hp.atl_store ?_ ?_); exact rfl; (try (refine Hp.wsB sh ?_)); clear sh; (try clear F); go_simp; (first | intro b w1 sh | intro w1 sh); have F := sh.fx)
          | fail)
      refine Hp.region_soft (by kernel_rfl) sh (fun _ q => Hp.Sh.dropA q) ?_; clear sh; (try clear F)
      (try simp only [Hp.p2, Hp.p3])
      (refine Hp.tks (i := 0) (oi := ⟨some 14, Op.move (Operand.tmp 3), _, _, _, none⟩) (fun _ q => Hp.Sh.dropA q) ?_)
      (refine Hp.tks (i := 1) (oi := ⟨some 15, Op.move (Operand.tmp 0), _, _, _, none⟩) (fun _ q => Hp.Sh.dropA q) ?_)
      (refine Hp.tks (i := 2) (oi := ⟨some 16, Op.move (Operand.tmp 4), _, _, _, none⟩) (fun _ q => Hp.Sh.dropA q) ?_)
      (refine Hp.tks (i := 3) (oi := ⟨some 17, Op.binOp BinOp.mul 3 (Operand.const (Value.int IntKind.i64 4)) (Operand.tmp 16) 3, _, _, _, none⟩) (fun _ q => Hp.Sh.dropA q) ?_)
      (refine Hp.tks (i := 4) (oi := ⟨some 18, Op.index 9 (Operand.tmp 15) (Operand.tmp 17), _, _, _, none⟩) (fun _ q => Hp.Sh.dropA q) ?_)
      (refine Hp.tks (i := 5) (oi := ⟨some 19, Op.convert 5 61 (Operand.tmp 18), _, _, _, none⟩) (fun _ q => Hp.Sh.dropA q) ?_)
      (refine Hp.tks (i := 6) (oi := ⟨some 20, Op.binOp BinOp.shl 61 (Operand.tmp 19) (Operand.const (Value.int IntKind.u64 24)) 83, _, _, _, none⟩) (fun _ q => Hp.Sh.dropA q) ?_)
      (refine Hp.tks (i := 7) (oi := ⟨some 21, Op.move (Operand.tmp 0), _, _, _, none⟩) (fun _ q => Hp.Sh.dropA q) ?_)
      (refine Hp.tks (i := 8) (oi := ⟨some 22, Op.move (Operand.tmp 4), _, _, _, none⟩) (fun _ q => Hp.Sh.dropA q) ?_)
      (refine Hp.tks (i := 9) (oi := ⟨some 23, Op.binOp BinOp.mul 3 (Operand.const (Value.int IntKind.i64 4)) (Operand.tmp 22) 3, _, _, _, none⟩) (fun _ q => Hp.Sh.dropA q) ?_)
      (refine Hp.tks (i := 10) (oi := ⟨some 24, Op.binOp BinOp.add 3 (Operand.tmp 23) (Operand.const (Value.int IntKind.i64 1)) 3, _, _, _, none⟩) (fun _ q => Hp.Sh.dropA q) ?_)
      (refine Hp.tks (i := 11) (oi := ⟨some 25, Op.index 9 (Operand.tmp 21) (Operand.tmp 24), _, _, _, none⟩) (fun _ q => Hp.Sh.dropA q) ?_)
      (refine Hp.tks (i := 12) (oi := ⟨some 26, Op.convert 5 61 (Operand.tmp 25), _, _, _, none⟩) (fun _ q => Hp.Sh.dropA q) ?_)
      (refine Hp.tks (i := 13) (oi := ⟨some 27, Op.binOp BinOp.shl 61 (Operand.tmp 26) (Operand.const (Value.int IntKind.u64 16)) 83, _, _, _, none⟩) (fun _ q => Hp.Sh.dropA q) ?_)
      (refine Hp.tks (i := 14) (oi := ⟨some 28, Op.binOp BinOp.or 61 (Operand.tmp 20) (Operand.tmp 27) 61, _, _, _, none⟩) (fun _ q => Hp.Sh.dropA q) ?_)
      (refine Hp.tks (i := 15) (oi := ⟨some 29, Op.move (Operand.tmp 0), _, _, _, none⟩) (fun _ q => Hp.Sh.dropA q) ?_)
      (refine Hp.tks (i := 16) (oi := ⟨some 30, Op.move (Operand.tmp 4), _, _, _, none⟩) (fun _ q => Hp.Sh.dropA q) ?_)
      (refine Hp.tks (i := 17) (oi := ⟨some 31, Op.binOp BinOp.mul 3 (Operand.const (Value.int IntKind.i64 4)) (Operand.tmp 30) 3, _, _, _, none⟩) (fun _ q => Hp.Sh.dropA q) ?_)
      (refine Hp.tks (i := 18) (oi := ⟨some 32, Op.binOp BinOp.add 3 (Operand.tmp 31) (Operand.const (Value.int IntKind.i64 2)) 3, _, _, _, none⟩) (fun _ q => Hp.Sh.dropA q) ?_)
      (refine Hp.tks (i := 19) (oi := ⟨some 33, Op.index 9 (Operand.tmp 29) (Operand.tmp 32), _, _, _, none⟩) (fun _ q => Hp.Sh.dropA q) ?_)
      (refine Hp.tks (i := 20) (oi := ⟨some 34, Op.convert 5 61 (Operand.tmp 33), _, _, _, none⟩) (fun _ q => Hp.Sh.dropA q) ?_)
      (refine Hp.tks (i := 21) (oi := ⟨some 35, Op.binOp BinOp.shl 61 (Operand.tmp 34) (Operand.const (Value.int IntKind.u64 8)) 83, _, _, _, none⟩) (fun _ q => Hp.Sh.dropA q) ?_)
      (refine Hp.tks (i := 22) (oi := ⟨some 36, Op.binOp BinOp.or 61 (Operand.tmp 28) (Operand.tmp 35) 61, _, _, _, none⟩) (fun _ q => Hp.Sh.dropA q) ?_)
      (refine Hp.tks (i := 23) (oi := ⟨some 37, Op.move (Operand.tmp 0), _, _, _, none⟩) (fun _ q => Hp.Sh.dropA q) ?_)
      (refine Hp.tks (i := 24) (oi := ⟨some 38, Op.move (Operand.tmp 4), _, _, _, none⟩) (fun _ q => Hp.Sh.dropA q) ?_)
      (refine Hp.tks (i := 25) (oi := ⟨some 39, Op.binOp BinOp.mul 3 (Operand.const (Value.int IntKind.i64 4)) (Operand.tmp 38) 3, _, _, _, none⟩) (fun _ q => Hp.Sh.dropA q) ?_)
      (refine Hp.tks (i := 26) (oi := ⟨some 40, Op.binOp BinOp.add 3 (Operand.tmp 39) (Operand.const (Value.int IntKind.i64 3)) 3, _, _, _, none⟩) (fun _ q => Hp.Sh.dropA q) ?_)
      (refine Hp.tks (i := 27) (oi := ⟨some 41, Op.index 9 (Operand.tmp 37) (Operand.tmp 40), _, _, _, none⟩) (fun _ q => Hp.Sh.dropA q) ?_)
      (refine Hp.tks (i := 28) (oi := ⟨some 42, Op.convert 5 61 (Operand.tmp 41), _, _, _, none⟩) (fun _ q => Hp.Sh.dropA q) ?_)
      (refine Hp.tks (i := 29) (oi := ⟨some 43, Op.binOp BinOp.or 61 (Operand.tmp 36) (Operand.tmp 42) 61, _, _, _, none⟩) (fun _ q => Hp.Sh.dropA q) ?_)
      refine Hp.soft_make (i := 30) (o := ⟨some 44, Op.buildSlice 109 1 #[(0, Operand.tmp 43)], _, _, _, none⟩) (by kernel_rfl) rfl (by rfl) (fun w1 sh K hK => ?_); (try clear F); (try have F := Hp.Sh.facts sh); (try simp only [Hp.Facts, Hp.CellsAt, Nat.reduceAdd, Hp.c1, Hp.c2] at F); (refine Hp.wp_lit 1 [.int .u32 x.toNat] Tryd.i_u32 Tryd.underlying109 sh rfl rfl (by omega) rfl ?_; clear sh; intro bl w1 sh; replace sh := sh.freeze1 (vs := [.int .u32 x.toNat]) (fun i v h => by simpa using h)); refine hK _ _ _ _ _ _ (fun _ q => Hp.Sh.dropA q) (fun _ q => q.imp fun W h => h.2) sh ?_; clear hK K; clear sh; (try clear F); (try simp only [Act.put, Hp.p1, Hp.p2, Hp.p3])
      refine Hp.soft_make (i := 31) (o := ⟨some 45, Op.call { callee := Callee.builtin Builtin.append, args := #[Operand.tmp 14, Operand.tmp 44], argTypes := #[109, 109] }, _, _, _, none⟩) (by kernel_rfl) rfl (by rfl) (fun w1 sh K hK => ?_); (try clear F); (try have F := Hp.Sh.facts sh); (try simp only [Hp.Facts, Hp.CellsAt, Nat.reduceAdd, Hp.c1, Hp.c2] at F); (refine Hp.wp_append (R := R) (H := []) (news := [.int .u32 x.toNat]) Tryd.i_u32 Tryd.underlying109 (by decide) rfl (by decide) sh HR.out rfl rfl rfl sh.data.1 (fun h => by cases h) (Hp.ones_mem rfl) (by omega) ?_; clear sh; intro v1 R1 w1 sh hr; have HR1 := Lib.hid hr; clear hr); refine hK _ _ _ _ _ _ (fun _ q => Hp.Sh.dropA q) (fun _ q => q) sh ?_; clear hK K; clear sh; (try clear F); (try simp only [Act.put, Hp.p1, Hp.p2, Hp.p3])
      (refine Hp.tks (i := 32) (oi := ⟨some 3, Op.assign (Operand.tmp 45), _, _, _, none⟩) (fun _ q => Hp.Sh.dropA q) ?_)
      refine Hp.soft_done (by kernel_rfl) (fun w1 sh => ?_) _; (try clear F); (try have F := Hp.Sh.facts sh); (try simp only [Hp.Facts, Hp.CellsAt, Nat.reduceAdd, Hp.c1, Hp.c2] at F)
      go_wp2
      go_roundw
      case rel => exact ⟨k + 1, R1, by go_num, by omega, by have := HR1.out; rw [HT.out] at this; exact this, sh.imp fun W h => h.2⟩
      case measure => simp [intOf]; omega
    · obtain rfl : k = 16 := by omega
      rw [List.take_of_length_le (by rw [DigP.first_length]; omega)] at HR
      go_wp2_with (first
          | ((with_reducible first | refine Hp.wpl_box sh ?_ ?_ | refine Hp.atl_store ?_ ?_); exact rfl; (try (refine Hp.wsB sh ?_)); clear sh; (try clear F); go_simp; (first | intro b w1 sh | intro w1 sh); have F := sh.fx)
          | fail)
      go_loopw [3, 5] (fun v i wr => ∃ (k : Nat) (R : List Hp.Blk), i = .int .i64 (16 + (k : Int)) ∧ k ≤ 48 ∧ Hid (Hp.RowIs 61 1 v (16 + k) (DigP.wds (DigP.wordsN l k)) R) ∧ Hp.Sh w wr (R ++ []) (fun _ => True)) (fun _ i _ => 64 - (intOf i).toNat)
      case atStart => exact ⟨0, R, rfl, by omega, HR, sh⟩
      case round =>
        clear sh HR F
        obtain ⟨k, R, rfl, hk, HR, sh⟩ := hrel
        have F : True := trivial
        by_cases hlt : k < 48
        · have hlI : 16 + (k : Int) < 64 := by omega
          obtain ⟨g, cp, rfl, hcp⟩ := HR.out.head (by omega)
          have HL := DigP.wordsN_length l k
          have HC := Lib.hid (fun W (h : Hp.Sh w W (R ++ []) (fun _ => True)) => DigP.four (Hp.Sh.cells h HR.out) (k := k) (by omega))
          have HT := Lib.hid (show DigP.wds (DigP.wordsN l k) ++ [.int .u32 ((DigP.next (DigP.wordsN l k) (16 + k)).toNat : Int)] = DigP.wds (DigP.wordsN l (k + 1)) from DigP.wds_snoc _ _)
          unfold DigP.next at HT
          rw [show 16 + k - 16 = k by omega, show 16 + k - 15 = k + 1 by omega, show 16 + k - 7 = k + 9 by omega, show 16 + k - 2 = k + 14 by omega] at HT
          generalize (DigP.wordsN l k).getD k 0 = y0 at HC HT
          generalize (DigP.wordsN l k).getD (k + 1) 0 = y1 at HC HT
          generalize (DigP.wordsN l k).getD (k + 9) 0 = y9 at HC HT
          generalize (DigP.wordsN l k).getD (k + 14) 0 = y14 at HC HT
          have hb1 : 16 + k + 1 ≤ 1099511627776 := by omega
          have K7 := Lib.hid (fun W => dturn y1 7 (by decide) (by decide) W)
          have K18 := Lib.hid (fun W => dturn y1 18 (by decide) (by decide) W)
          have K17 := Lib.hid (fun W => dturn y14 17 (by decide) (by decide) W)
          have K19 := Lib.hid (fun W => dturn y14 19 (by decide) (by decide) W)
          have X1 := DigP.bxor (DigP.turn y1 7) (DigP.turn y1 18)
          have X2 : bits .xor .u32 ((DigP.turn y1 7 ^^^ DigP.turn y1 18).toNat : Int) ((y1 >>> 3).toNat : Int) = ((DigP.small0 y1).toNat : Int) := DigP.bxor _ _
          have X3 := DigP.bxor (DigP.turn y14 17) (DigP.turn y14 19)
          have X4 : bits .xor .u32 ((DigP.turn y14 17 ^^^ DigP.turn y14 19).toNat : Int) ((y14 >>> 10).toNat : Int) = ((DigP.small1 y14).toNat : Int) := DigP.bxor _ _
          have s3 := DigP.bshr8 y1
          have s10 := DigP.bshr1024 y14
          generalize DigP.small0 y1 = z0 at X2 HT
          generalize DigP.small1 y14 = z1 at X4 HT
          generalize y1 >>> 3 = v3 at X2 s3
          generalize y14 >>> 10 = v10 at X4 s10
          generalize DigP.turn y1 7 ^^^ DigP.turn y1 18 = a1 at X1 X2
          generalize DigP.turn y14 17 ^^^ DigP.turn y14 19 = a2 at X3 X4
          generalize DigP.turn y1 7 = t7 at K7 X1
          generalize DigP.turn y1 18 = t18 at K18 X1
          generalize DigP.turn y14 17 = t17 at K17 X3
          generalize DigP.turn y14 19 = t19 at K19 X3
          have A1 := DigP.badd y0 z0
          have A2 := DigP.badd (y0 + z0) y9
          have A3 := DigP.badd (y0 + z0 + y9) z1
          generalize y0 + z0 = s1 at A1 A2 A3 HT
          generalize s1 + y9 = s2 at A2 A3 HT
          generalize s2 + z1 = r at A3 HT
          have j1 : IntKind.i64.wrap (16 + (k : Int) - 15) = (k : Int) + 1 := by rw [IntWalk.i64_in _ (by omega)]; omega
          have j2 : IntKind.i64.wrap (16 + (k : Int) - 2) = (k : Int) + 14 := by rw [IntWalk.i64_in _ (by omega)]; omega
          have j3 : IntKind.i64.wrap (16 + (k : Int) - 16) = (k : Int) := by rw [IntWalk.i64_in _ (by omega)]; omega
          have j4 : IntKind.i64.wrap (16 + (k : Int) - 7) = (k : Int) + 9 := by rw [IntWalk.i64_in _ (by omega)]; omega
          have j5 : IntKind.i64.wrap (k : Int) = k := IntWalk.i64_in _ (by omega)
          have j6 : IntKind.i64.wrap ((k : Int) + 1) = (k : Int) + 1 := IntWalk.i64_in _ (by omega)
          have j7 : IntKind.i64.wrap ((k : Int) + 9) = (k : Int) + 9 := IntWalk.i64_in _ (by omega)
          have j8 : IntKind.i64.wrap ((k : Int) + 14) = (k : Int) + 14 := IntWalk.i64_in _ (by omega)
          have u1 : 16 + (k : Int) - 15 = (k : Int) + 1 := by omega
          have u2 : 16 + (k : Int) - 2 = (k : Int) + 14 := by omega
          have u3' : 16 + (k : Int) - 16 = (k : Int) := by omega
          have u4 : 16 + (k : Int) - 7 = (k : Int) + 9 := by omega
          have n1 : ((k : Int) + 1).toNat = k + 1 := by omega
          have n2 : ((k : Int) + 14).toNat = k + 14 := by omega
          have n4 : ((k : Int) + 9).toNat = k + 9 := by omega
          have b1 : (k : Int) + 1 < 16 + (k : Int) := by omega
          have b2 : (k : Int) + 14 < 16 + (k : Int) := by omega
          have b3 : (k : Int) < 16 + (k : Int) := by omega
          have b4 : (k : Int) + 9 < 16 + (k : Int) := by omega
          have p1 : (0 : Int) ≤ (k : Int) + 1 := by omega
          have p2 : (0 : Int) ≤ (k : Int) + 14 := by omega
          have p4 : (0 : Int) ≤ (k : Int) + 9 := by omega
          have F := sh.fx; (try clear hcs); (try (first | (have hcs := HC.out _ sh) | (have hcs := HC.out _ sh) | (have hcs := HC.out _ sh) | (have hcs := HC.out _ sh) | (have hcs := HC.out _ sh)))
          go_wp2_with (first
              | ((with_reducible first | refine Hp.wpl_box sh ?_ ?_ | refine Hp.atl_store ?_ ?_); exact rfl; (try (refine Hp.wsB sh ?_)); clear sh; (try clear F); go_simp; (first | intro b w1 sh | intro w1 sh); have F := sh.fx; (try clear hcs); (try (first | (have hcs := HC.out _ sh) | (have hcs := HC.out _ sh) | (have hcs := HC.out _ sh) | (have hcs := HC.out _ sh) | (have hcs := HC.out _ sh))))
              | fail)
          go_fit (K7.out _)
          rintro e w1 ⟨rfl, hb⟩
          replace sh := sh.call hb; clear hb; (try clear F); have F := sh.fx; (try clear hcs); (try (first | (have hcs := HC.out _ sh) | (have hcs := HC.out _ sh) | (have hcs := HC.out _ sh) | (have hcs := HC.out _ sh) | (have hcs := HC.out _ sh)))
          go_wp2_with (first
              | ((with_reducible first | refine Hp.wpl_box sh ?_ ?_ | refine Hp.atl_store ?_ ?_); exact rfl; (try (refine Hp.wsB sh ?_)); clear sh; (try clear F); go_simp; (first | intro b w1 sh | intro w1 sh); have F := sh.fx; (try clear hcs); (try (first | (have hcs := HC.out _ sh) | (have hcs := HC.out _ sh) | (have hcs := HC.out _ sh) | (have hcs := HC.out _ sh) | (have hcs := HC.out _ sh))))
              | fail)
          go_fit (K18.out _)
          rintro e w1 ⟨rfl, hb⟩
          replace sh := sh.call hb; clear hb; (try clear F); have F := sh.fx; (try clear hcs); (try (first | (have hcs := HC.out _ sh) | (have hcs := HC.out _ sh) | (have hcs := HC.out _ sh) | (have hcs := HC.out _ sh) | (have hcs := HC.out _ sh)))
          go_wp2_with (first
              | ((with_reducible first | refine Hp.wpl_box sh ?_ ?_ | refine Hp.atl_store ?_ ?_); exact rfl; (try (refine Hp.wsB sh ?_)); clear sh; (try clear F); go_simp; (first | intro b w1 sh | intro w1 sh); have F := sh.fx; (try clear hcs); (try (first | (have hcs := HC.out _ sh) | (have hcs := HC.out _ sh) | (have hcs := HC.out _ sh) | (have hcs := HC.out _ sh) | (have hcs := HC.out _ sh))))
              | fail)
          go_fit (K17.out _)
          rintro e w1 ⟨rfl, hb⟩
          replace sh := sh.call hb; clear hb; (try clear F); have F := sh.fx; (try clear hcs); (try (first | (have hcs := HC.out _ sh) | (have hcs := HC.out _ sh) | (have hcs := HC.out _ sh) | (have hcs := HC.out _ sh) | (have hcs := HC.out _ sh)))
          go_wp2_with (first
              | ((with_reducible first | refine Hp.wpl_box sh ?_ ?_ | refine Hp.atl_store ?_ ?_); exact rfl; (try (refine Hp.wsB sh ?_)); clear sh; (try clear F); go_simp; (first | intro b w1 sh | intro w1 sh); have F := sh.fx; (try clear hcs); (try (first | (have hcs := HC.out _ sh) | (have hcs := HC.out _ sh) | (have hcs := HC.out _ sh) | (have hcs := HC.out _ sh) | (have hcs := HC.out _ sh))))
              | fail)
          go_fit (K19.out _)
          rintro e w1 ⟨rfl, hb⟩
          replace sh := sh.call hb; clear hb; (try clear F); have F := sh.fx; (try clear hcs); (try (first | (have hcs := HC.out _ sh) | (have hcs := HC.out _ sh) | (have hcs := HC.out _ sh) | (have hcs := HC.out _ sh) | (have hcs := HC.out _ sh)))
          go_wp2_with (first
              | ((with_reducible first | refine Hp.wpl_box sh ?_ ?_ | refine Hp.atl_store ?_ ?_); exact rfl; (try (refine Hp.wsB sh ?_)); clear sh; (try clear F); go_simp; (first | intro b w1 sh | intro w1 sh); have F := sh.fx; (try clear hcs); (try (first | (have hcs := HC.out _ sh) | (have hcs := HC.out _ sh) | (have hcs := HC.out _ sh) | (have hcs := HC.out _ sh) | (have hcs := HC.out _ sh))))
              | fail)
          refine Hp.region_soft (by kernel_rfl) sh (fun _ q => Hp.Sh.dropA q) ?_; clear sh; (try clear F)
          (try simp only [Hp.p2, Hp.p3])
          (refine Hp.tks (i := 0) (oi := ⟨some 76, Op.move (Operand.tmp 3), _, _, _, none⟩) (fun _ q => Hp.Sh.dropA q) ?_)
          (refine Hp.tks (i := 1) (oi := ⟨some 77, Op.move (Operand.tmp 3), _, _, _, none⟩) (fun _ q => Hp.Sh.dropA q) ?_)
          (refine Hp.tks (i := 2) (oi := ⟨some 78, Op.move (Operand.tmp 5), _, _, _, none⟩) (fun _ q => Hp.Sh.dropA q) ?_)
          (refine Hp.tks (i := 3) (oi := ⟨some 79, Op.binOp BinOp.sub 3 (Operand.tmp 78) (Operand.const (Value.int IntKind.i64 16)) 3, _, _, _, none⟩) (fun _ q => Hp.Sh.dropA q) ?_)
          (refine Hp.tks (i := 4) (oi := ⟨some 80, Op.indexAddr 109 (Operand.tmp 77) (Operand.tmp 79), _, _, _, none⟩) (fun _ q => Hp.Sh.dropA q) ?_)
          (refine Hp.tks (i := 6) (oi := ⟨some 82, Op.move (Operand.tmp 8), _, _, _, none⟩) (fun _ q => Hp.Sh.dropA q) ?_)
          (refine Hp.tks (i := 8) (oi := ⟨some 84, Op.move (Operand.tmp 3), _, _, _, none⟩) (fun _ q => Hp.Sh.dropA q) ?_)
          (refine Hp.tks (i := 9) (oi := ⟨some 85, Op.move (Operand.tmp 5), _, _, _, none⟩) (fun _ q => Hp.Sh.dropA q) ?_)
          (refine Hp.tks (i := 10) (oi := ⟨some 86, Op.binOp BinOp.sub 3 (Operand.tmp 85) (Operand.const (Value.int IntKind.i64 7)) 3, _, _, _, none⟩) (fun _ q => Hp.Sh.dropA q) ?_)
          (refine Hp.tks (i := 11) (oi := ⟨some 87, Op.indexAddr 109 (Operand.tmp 84) (Operand.tmp 86), _, _, _, none⟩) (fun _ q => Hp.Sh.dropA q) ?_)
          (refine Hp.tks (i := 14) (oi := ⟨some 90, Op.move (Operand.tmp 9), _, _, _, none⟩) (fun _ q => Hp.Sh.dropA q) ?_)
          refine Hp.soft_two (i := 5) (j := 12) (by kernel_rfl) ?_ ?_
          · refine Hp.soft_step (o := ⟨some 81, Op.load 61 (Operand.tmp 80), _, _, _, none⟩) rfl (by rfl) (fun w1 sh K hK => ?_); (try clear F); (try have F := Hp.Sh.facts sh); (try simp only [Hp.Facts, Hp.CellsAt, Nat.reduceAdd, Hp.c1, Hp.c2] at F); (have hcs := HC.out _ sh; go_simp); refine hK _ _ _ _ _ _ (fun _ q => Hp.Sh.dropA q) (fun _ q => q) sh ?_; clear hK K; clear sh; (try clear F); (try simp only [Act.put, Hp.p1, Hp.p2, Hp.p3])
            (refine Hp.tks (i := 7) (oi := ⟨some 83, Op.binOp BinOp.add 61 (Operand.tmp 81) (Operand.tmp 82) 61, _, _, _, none⟩) (fun _ q => Hp.Sh.dropA q) ?_)
            refine Hp.soft_make (i := 12) (o := ⟨some 88, Op.load 61 (Operand.tmp 87), _, _, _, none⟩) (by kernel_rfl) rfl (by rfl) (fun w1 sh K hK => ?_); (try clear F); (try have F := Hp.Sh.facts sh); (try simp only [Hp.Facts, Hp.CellsAt, Nat.reduceAdd, Hp.c1, Hp.c2] at F); (have hcs := HC.out _ sh; go_simp); refine hK _ _ _ _ _ _ (fun _ q => Hp.Sh.dropA q) (fun _ q => q) sh ?_; clear hK K; clear sh; (try clear F); (try simp only [Act.put, Hp.p1, Hp.p2, Hp.p3])
            (refine Hp.tks (i := 13) (oi := ⟨some 89, Op.binOp BinOp.add 61 (Operand.tmp 83) (Operand.tmp 88) 61, _, _, _, none⟩) (fun _ q => Hp.Sh.dropA q) ?_)
            (refine Hp.tks (i := 15) (oi := ⟨some 91, Op.binOp BinOp.add 61 (Operand.tmp 89) (Operand.tmp 90) 61, _, _, _, none⟩) (fun _ q => Hp.Sh.dropA q) ?_)
            refine Hp.soft_make (i := 16) (o := ⟨some 92, Op.buildSlice 109 1 #[(0, Operand.tmp 91)], _, _, _, none⟩) (by kernel_rfl) rfl (by rfl) (fun w1 sh K hK => ?_); (try clear F); (try have F := Hp.Sh.facts sh); (try simp only [Hp.Facts, Hp.CellsAt, Nat.reduceAdd, Hp.c1, Hp.c2] at F); (refine Hp.wp_lit 1 [.int .u32 r.toNat] Tryd.i_u32 Tryd.underlying109 sh rfl rfl (by omega) rfl ?_; clear sh; intro bl w1 sh; replace sh := sh.freeze1 (vs := [.int .u32 r.toNat]) (fun i v h => by simpa using h)); refine hK _ _ _ _ _ _ (fun _ q => Hp.Sh.dropA q) (fun _ q => q.imp fun W h => h.2) sh ?_; clear hK K; clear sh; (try clear F); (try simp only [Act.put, Hp.p1, Hp.p2, Hp.p3])
            refine Hp.soft_make (i := 17) (o := ⟨some 93, Op.call { callee := Callee.builtin Builtin.append, args := #[Operand.tmp 76, Operand.tmp 92], argTypes := #[109, 109] }, _, _, _, none⟩) (by kernel_rfl) rfl (by rfl) (fun w1 sh K hK => ?_); (try clear F); (try have F := Hp.Sh.facts sh); (try simp only [Hp.Facts, Hp.CellsAt, Nat.reduceAdd, Hp.c1, Hp.c2] at F); (refine Hp.wp_append (R := R) (H := []) (news := [.int .u32 r.toNat]) Tryd.i_u32 Tryd.underlying109 (by decide) rfl (by decide) sh HR.out rfl rfl rfl sh.data.1 (fun h => by cases h) (Hp.ones_mem rfl) (by omega) ?_; clear sh; intro v1 R1 w1 sh hr; have HR1 := Lib.hid hr; clear hr); refine hK _ _ _ _ _ _ (fun _ q => Hp.Sh.dropA q) (fun _ q => q) sh ?_; clear hK K; clear sh; (try clear F); (try simp only [Act.put, Hp.p1, Hp.p2, Hp.p3])
            (refine Hp.tks (i := 18) (oi := ⟨some 3, Op.assign (Operand.tmp 93), _, _, _, none⟩) (fun _ q => Hp.Sh.dropA q) ?_)
            refine Hp.soft_done (by kernel_rfl) (fun w1 sh => ?_) _; (try clear F); (try have F := Hp.Sh.facts sh); (try simp only [Hp.Facts, Hp.CellsAt, Nat.reduceAdd, Hp.c1, Hp.c2] at F)
            (clear X1 X2 X3 X4 s3 s10 A1 A2 A3 j1 j2 j3 j4 j5 j6 j7 j8 u1 u2 u3' u4 n1 n2 n4 b1 b2 b3 b4 p1 p2 p4; clear K7 K18 K17 K19 HC hcs; go_wp2; (refine ⟨?_, ?measure⟩; (repeat apply Exists.intro); (refine And.intro ?rel ?eqq); (case eqq => rfl); (case rel => exact ⟨k + 1, R1, by go_num, by omega, by have := HR1.out; rw [HT.out] at this; exact this, sh.imp fun W h => h.2⟩); (case measure => simp [intOf]; omega)))
          · refine Hp.soft_step (o := ⟨some 88, Op.load 61 (Operand.tmp 87), _, _, _, none⟩) rfl (by rfl) (fun w1 sh K hK => ?_); (try clear F); (try have F := Hp.Sh.facts sh); (try simp only [Hp.Facts, Hp.CellsAt, Nat.reduceAdd, Hp.c1, Hp.c2] at F); (have hcs := HC.out _ sh; go_simp); refine hK _ _ _ _ _ _ (fun _ q => Hp.Sh.dropA q) (fun _ q => q) sh ?_; clear hK K; clear sh; (try clear F); (try simp only [Act.put, Hp.p1, Hp.p2, Hp.p3])
            refine Hp.soft_make (i := 5) (o := ⟨some 81, Op.load 61 (Operand.tmp 80), _, _, _, none⟩) (by kernel_rfl) rfl (by rfl) (fun w1 sh K hK => ?_); (try clear F); (try have F := Hp.Sh.facts sh); (try simp only [Hp.Facts, Hp.CellsAt, Nat.reduceAdd, Hp.c1, Hp.c2] at F); (have hcs := HC.out _ sh; go_simp); refine hK _ _ _ _ _ _ (fun _ q => Hp.Sh.dropA q) (fun _ q => q) sh ?_; clear hK K; clear sh; (try clear F); (try simp only [Act.put, Hp.p1, Hp.p2, Hp.p3])
            (refine Hp.tks (i := 7) (oi := ⟨some 83, Op.binOp BinOp.add 61 (Operand.tmp 81) (Operand.tmp 82) 61, _, _, _, none⟩) (fun _ q => Hp.Sh.dropA q) ?_)
            (refine Hp.tks (i := 13) (oi := ⟨some 89, Op.binOp BinOp.add 61 (Operand.tmp 83) (Operand.tmp 88) 61, _, _, _, none⟩) (fun _ q => Hp.Sh.dropA q) ?_)
            (refine Hp.tks (i := 15) (oi := ⟨some 91, Op.binOp BinOp.add 61 (Operand.tmp 89) (Operand.tmp 90) 61, _, _, _, none⟩) (fun _ q => Hp.Sh.dropA q) ?_)
            refine Hp.soft_make (i := 16) (o := ⟨some 92, Op.buildSlice 109 1 #[(0, Operand.tmp 91)], _, _, _, none⟩) (by kernel_rfl) rfl (by rfl) (fun w1 sh K hK => ?_); (try clear F); (try have F := Hp.Sh.facts sh); (try simp only [Hp.Facts, Hp.CellsAt, Nat.reduceAdd, Hp.c1, Hp.c2] at F); (refine Hp.wp_lit 1 [.int .u32 r.toNat] Tryd.i_u32 Tryd.underlying109 sh rfl rfl (by omega) rfl ?_; clear sh; intro bl w1 sh; replace sh := sh.freeze1 (vs := [.int .u32 r.toNat]) (fun i v h => by simpa using h)); refine hK _ _ _ _ _ _ (fun _ q => Hp.Sh.dropA q) (fun _ q => q.imp fun W h => h.2) sh ?_; clear hK K; clear sh; (try clear F); (try simp only [Act.put, Hp.p1, Hp.p2, Hp.p3])
            refine Hp.soft_make (i := 17) (o := ⟨some 93, Op.call { callee := Callee.builtin Builtin.append, args := #[Operand.tmp 76, Operand.tmp 92], argTypes := #[109, 109] }, _, _, _, none⟩) (by kernel_rfl) rfl (by rfl) (fun w1 sh K hK => ?_); (try clear F); (try have F := Hp.Sh.facts sh); (try simp only [Hp.Facts, Hp.CellsAt, Nat.reduceAdd, Hp.c1, Hp.c2] at F); (refine Hp.wp_append (R := R) (H := []) (news := [.int .u32 r.toNat]) Tryd.i_u32 Tryd.underlying109 (by decide) rfl (by decide) sh HR.out rfl rfl rfl sh.data.1 (fun h => by cases h) (Hp.ones_mem rfl) (by omega) ?_; clear sh; intro v1 R1 w1 sh hr; have HR1 := Lib.hid hr; clear hr); refine hK _ _ _ _ _ _ (fun _ q => Hp.Sh.dropA q) (fun _ q => q) sh ?_; clear hK K; clear sh; (try clear F); (try simp only [Act.put, Hp.p1, Hp.p2, Hp.p3])
            (refine Hp.tks (i := 18) (oi := ⟨some 3, Op.assign (Operand.tmp 93), _, _, _, none⟩) (fun _ q => Hp.Sh.dropA q) ?_)
            refine Hp.soft_done (by kernel_rfl) (fun w1 sh => ?_) _; (try clear F); (try have F := Hp.Sh.facts sh); (try simp only [Hp.Facts, Hp.CellsAt, Nat.reduceAdd, Hp.c1, Hp.c2] at F)
            (clear X1 X2 X3 X4 s3 s10 A1 A2 A3 j1 j2 j3 j4 j5 j6 j7 j8 u1 u2 u3' u4 n1 n2 n4 b1 b2 b3 b4 p1 p2 p4; clear K7 K18 K17 K19 HC hcs; go_wp2; (refine ⟨?_, ?measure⟩; (repeat apply Exists.intro); (refine And.intro ?rel ?eqq); (case eqq => rfl); (case rel => exact ⟨k + 1, R1, by go_num, by omega, by have := HR1.out; rw [HT.out] at this; exact this, sh.imp fun W h => h.2⟩); (case measure => simp [intOf]; omega)))
        · obtain rfl : k = 48 := by omega
          obtain ⟨g, cp, rfl, hcp⟩ := HR.out.head (by omega)
          go_wp2_with (first
              | ((with_reducible first | refine Hp.wpl_box sh ?_ ?_ | refine Hp.atl_store ?_ ?_); exact rfl; (try (refine Hp.wsB sh ?_)); clear sh; (try clear F); go_simp; (first | intro b w1 sh | intro w1 sh); have F := sh.fx; (try clear hcs); (try (first | (have hcs := HC.out _ sh) | (have hcs := HC.out _ sh) | (have hcs := HC.out _ sh) | (have hcs := HC.out _ sh) | (have hcs := HC.out _ sh))))
              | fail)
          go_ret
          exact ⟨g, cp, rfl, Hp.row_new sh HR.out _ rfl, Hp.Sh.cells sh HR.out, sh.below⟩

end Go.Proofs.YtfcffglgkblidaaDoor
