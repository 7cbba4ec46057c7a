/-
  Rows of words, and the reference's Same.
-/
import Derived.Test.YtfioeliejblboaaRows
import Derived.Test.YtfioeliejblboaaHeap
import Derived.Deep.LoopGhost
namespace Go.Proofs.Ytfioeliejblboaa
open Go.RowKit
set_option linter.unusedVariables false
set_option linter.unusedSimpArgs false

theorem ret_bool {a b : Bool} (h : a = b) : Ending.returned (.bool a) = .returned (.bool b) := by rw [h]

def ints (zs : List Int) : List Value := zs.map (Value.int .u32)
theorem ints_length (zs : List Int) : (ints zs).length = zs.length := by simp [ints]
theorem ints_get {zs : List Int} {i : Nat} (h : i < zs.length) : (ints zs)[i]? = some (.int .u32 zs[i]) := by simp [ints, h]
theorem ints_one {zs : List Int} : ∀ v ∈ ints zs, v.oneCell' = true := by
  intro v hv
  obtain ⟨z, _, rfl⟩ := List.mem_map.1 hv
  rfl
theorem RdV_rob {W : World} {s : Option Addr} {vs : List Value} (h : Hp.RdV W s vs) : Hp.Rob (fun _ => False) W (fun W => Hp.RdV W s vs) := fun W' ho => h.below ho (fun _ _ h => h)

set_option maxHeartbeats 1000000 in
set_option maxRecDepth 100000 in
theorem same19 (s r : Option Addr) (zs ys : List Int) (n m c d : Nat) (w : World) (hz0 : n = zs.length) (hy0 : m = ys.length) (hs : Hp.RdV w s (ints zs)) (hr : Hp.RdV w r (ints ys)) (hn : n ≤ 9223372036854775807) :
    Calls Try.prog 13 #[.slice s n c, .slice r m d] w
      fun e w' => e = .returned (.bool (zs == ys)) ∧ Below w.heap.size w w' := by
  by_cases hl : n = m
  · subst hl
    have hz := Lib.hid hz0
    have hy := Lib.hid hy0
    clear hz0 hy0
    by_cases h0 : 0 < n
    · obtain ⟨p, rfl, -⟩ := hs (by rw [ints_length, ← hz.out]; exact h0)
      obtain ⟨q, rfl, -⟩ := hr (by rw [ints_length, ← hy.out]; exact h0)
      have sh := Hp.Sh.start ((RdV_rob hs).and (RdV_rob hr))
      clear hs hr
      go_enter Try.func13, Try.ntmps13
      go_wp2
      go_loopw [5] (fun i wr => ∃ k : Nat, i = .int .i64 k ∧ k ≤ n ∧ Hid (∀ j (h1 : j < zs.length) (h2 : j < ys.length), j < k → zs[j] = ys[j]) ∧ Hp.Sh w wr [] (fun W => Hp.RdV W (some p) (ints zs) ∧ Hp.RdV W (some q) (ints ys))) (fun i _ => n - (intOf i).toNat)
      case atStart => exact ⟨0, rfl, by omega, fun j h1 h2 h3 => by omega, sh⟩
      case round =>
        clear sh
        obtain ⟨k, rfl, hk, hpre, sh⟩ := hrel
        by_cases hlt : k < n
        · have g1 : k < zs.length := by rw [← hz.out]; exact hlt
          have g2 : k < ys.length := by rw [← hy.out]; exact hlt
          have hc1 := sh.data.1.cell k (ints_get g1)
          have hc2 := sh.data.2.cell k (ints_get g2)
          by_cases he : zs[k] = ys[k]
          · have hnx : ∀ j (h1 : j < zs.length) (h2 : j < ys.length), j < k + 1 → zs[j] = ys[j] := by
              intro j h1 h2 h3
              by_cases hj : j < k
              · exact hpre.out j h1 h2 hj
              · obtain rfl : j = k := by omega
                exact he
            have HN := Lib.hid hnx
            rw [← he] at hc2
            generalize zs[k] = z at hc1 hc2
            clear he hnx g1 g2
            go_wp2
            go_quiet (fail)
            go_wp2
            go_roundw
            case rel => exact ⟨k + 1, by go_num, by omega, HN.out, sh.drewN _⟩
            case measure => simp [intOf]; omega
          · have hne : (zs == ys) = false := by
              rw [beq_eq_false_iff_ne]; intro h; subst h; exact he rfl
            have HB := Lib.hid hne
            generalize zs[k] = z at hc1 he
            generalize ys[k] = y at hc2 he
            clear hne g1 g2
            go_wp2
            go_quiet (fail)
            go_wp2
            go_ret
            exact ⟨ret_bool HB.out.symm, (sh.drewN _).below⟩
        · obtain rfl : k = n := by omega
          have heq : zs = ys := List.ext_getElem (by rw [← hz.out, ← hy.out]) (fun j h1 h2 => hpre.out j h1 h2 (by rw [hz.out]; exact h1))
          go_wp2
          go_ret
          exact ⟨ret_bool (by simp [heq]), sh.below⟩
    · obtain rfl : n = 0 := by omega
      obtain rfl : zs = [] := List.eq_nil_of_length_eq_zero hz.out.symm
      obtain rfl : ys = [] := List.eq_nil_of_length_eq_zero hy.out.symm
      clear hz hy hs hr
      go_enter Try.func13, Try.ntmps13
      go_wp2
      go_loop [5] (fun i => i = .int .i64 0) (fun _ => 0)
      case atStart => rfl
      case round =>
        subst hrel
        go_wp2
        go_ret
        exact ⟨rfl, Below.refl _ _⟩
  · have hne : (zs == ys) = false := by
      rw [beq_eq_false_iff_ne]; intro h; subst h; exact hl (hz0.trans hy0.symm)
    have hlI : (n : Int) ≠ (m : Int) := by omega
    clear hz0 hy0 hs hr
    go_enter Try.func13, Try.ntmps13
    go_wp2
    go_ret
    exact ⟨ret_bool hne.symm, Below.refl _ _⟩

end Go.Proofs.Ytfioeliejblboaa
