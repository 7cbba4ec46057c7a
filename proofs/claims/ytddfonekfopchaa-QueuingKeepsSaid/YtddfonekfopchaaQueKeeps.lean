/-
  The walk of QueuingKeeps.
-/
import Derived.Test.YtddfonekfopchaaQue4
namespace Go.Proofs.Ytddfonekfopchaa
open Go.RowKit
set_option linter.unusedVariables false
set_option linter.unusedSimpArgs false


namespace QueP
theorem scode_zero {size dep : Int} {zss : List (List Int)} {m : Nat} (h : scode size dep zss m = 0) : isd size dep zss = true ∧ fit size m = true ∧ (zss.length : Int) < dep := by
  unfold scode at h
  split at h
  · simp at h
  · split at h
    · simp at h
    · split at h
      · simp at h
      · rename_i h1 h2 h3
        exact ⟨by simpa using h1, by simpa using h2, by omega⟩
theorem isd_iff {size dep : Int} {zss : List (List Int)} : isd size dep zss = true ↔ (1 ≤ size ∧ size ≤ 8 ∧ 1 ≤ dep ∧ dep ≤ 16 ∧ (zss.length : Int) ≤ dep ∧ ∀ z ∈ zss, fit size z.length = true) := by
  simp only [isd, is, Bool.and_eq_true, decide_eq_true_eq, List.length_map, List.all_eq_true, List.mem_map]
  constructor
  · rintro ⟨⟨⟨⟨⟨a, b⟩, c⟩, d⟩, e⟩, f⟩
    exact ⟨a, b, c, d, e, fun z hz => f _ ⟨z, hz, rfl⟩⟩
  · rintro ⟨a, b, c, d, e, f⟩
    refine ⟨⟨⟨⟨⟨a, b⟩, c⟩, d⟩, e⟩, ?_⟩
    rintro x ⟨z, hz, rfl⟩
    exact f z hz
theorem isd_snoc {size dep : Int} {zss : List (List Int)} {zs : List Int} (h : isd size dep zss = true) (hf : fit size zs.length = true) (hl : (zss.length : Int) < dep) : isd size dep (zss ++ [zs]) = true := by
  rw [isd_iff] at h ⊢
  obtain ⟨a, b, c, d, e, f⟩ := h
  refine ⟨a, b, c, d, by simp; omega, fun z hz => ?_⟩
  rcases List.mem_append.1 hz with hz | hz
  · exact f z hz
  · simp only [List.mem_singleton] at hz; subst hz; exact hf
theorem isd_tail {size dep : Int} {zss : List (List Int)} {zs : List Int} (h : isd size dep (zs :: zss) = true) : isd size dep zss = true := by
  rw [isd_iff] at h ⊢
  obtain ⟨a, b, c, d, e, f⟩ := h
  exact ⟨a, b, c, d, by simp at e; omega, fun z hz => f z (by simp [hz])⟩
theorem rcode_zero {size dep : Int} {zss : List (List Int)} (h : isd size dep zss = true) (h0 : 0 < zss.length) : rcode size dep zss = 0 := by
  unfold rcode
  rw [h]
  simp
  intro e; subst e; simp at h0
/-- A line behind a Send that was taken: what was there, and the message. -/
theorem sent_split {s' : Option Addr} {hs' : List Hd} {cap' : Nat} {zss : List (List Int)} {zs : List Int} (h : qd (s', hs', cap') = zss ++ [zs]) : ∃ pre x, hs' = pre ++ [x] ∧ pre.map (·.2.1) = zss ∧ x.2.1 = zs := by
  simp only [qd] at h
  have hne : hs' ≠ [] := by rintro rfl; simp at h
  have e := List.dropLast_concat_getLast hne
  refine ⟨hs'.dropLast, hs'.getLast hne, e.symm, ?_⟩
  rw [← e, List.map_append, List.map_cons, List.map_nil] at h
  have := List.append_inj' h rfl
  exact ⟨this.1, by simpa using this.2⟩
theorem QOk_pre {W : World} {s : Option Addr} {pre : List Hd} {x : Hd} {c : Nat} (h : QOk W (s, pre ++ [x], c)) : QOk W (s, pre, c) := by
  refine ⟨?_, fun y hy => h.2 y (by simp [hy])⟩
  have h1 := h.1.take pre.length
  simp only [List.map_append, List.map_cons, List.map_nil] at h1
  rwa [List.take_left' (by simp)] at h1
theorem QOk_last {W : World} {p : Addr} {pre : List Hd} {x : Hd} {c : Nat} (h : QOk W (some p, pre ++ [x], c)) : W.cell? (p.add pre.length) = some (hdr x) ∧ Hp.RdV W x.1 (ints x.2.1) :=
  ⟨h.1.cell _ (by simp), h.2 x (by simp)⟩
end QueP

set_option maxHeartbeats 8000000 in
set_option maxRecDepth 100000 in
theorem queuingKeeps_walk (kd fr tg size dep : Int) (s : Option Addr) (hs : List QueP.Hd) (cap n : Nat) (a1 : Option Addr) (a2 : List Int) (a3 la : Nat) (b1 : Option Addr) (b2 : List Int) (b3 lb : Nat) (w : World) (hsz : -9223372036854775808 ≤ size ∧ size ≤ 9223372036854775807) (hdp : -9223372036854775808 ≤ dep ∧ dep ≤ 9223372036854775807)
    (hn : n = hs.length) (hla : la = a2.length) (hlb : lb = b2.length) (hq : QueP.QShape (s, hs, cap)) (ha : QueP.Shape (a1, a2, a3)) (hb : QueP.Shape (b1, b2, b3)) (hqo : QueP.QOk w (s, hs, cap)) (hao : Hp.RdV w a1 (ints a2)) (hbo : Hp.RdV w b1 (ints b2)) :
    Calls Try.prog 4 #[.agg #[.int .i64 kd, .int .i64 fr, .int .i64 tg, .int .i64 size, .int .i64 dep], .agg #[.slice s n cap], .slice a1 la a3, .slice b1 lb b3] w
      fun e w' => e = .returned (.bool true) ∧ Below w.heap.size w w' := by
  have hq4 : n ≤ 9223372036854775807 := by rw [hn]; exact hq.2.2.2.1
  have hla4 : la ≤ 9223372036854775807 := by rw [hla]; exact ha.2.2.1
  have hlb4 : lb ≤ 9223372036854775807 := by rw [hlb]; exact hb.2.2.1
  have HN := Lib.hid hn
  have HLA := Lib.hid hla
  have HLB := Lib.hid hlb
  have HQ := Lib.hid hq
  have HA := Lib.hid ha
  have HB := Lib.hid hb
  have sh := Hp.Sh.start ((QueP.QOkRob hqo).and ((RdV_rob hao).and (RdV_rob hbo)))
  have BG := Lib.hid (fun W h => qbig s hs n cap W hn hq4 hq.2.2.2.2 h)
  have SA := Lib.hid (fun w1 H D sh h1 h2 => qsend kd fr tg size dep s hs cap n a1 a2 a3 la w w1 H D sh hsz hdp hn hla hq ha h1 h2)
  have SB := Lib.hid (fun w1 H D sh h1 h2 => qsend kd fr tg size dep s hs cap n b1 b2 b3 lb w w1 H D sh hsz hdp hn hlb hq hb h1 h2)
  clear hn hla hlb hq ha hb hqo hao hbo
  go_enter Try.func4, Try.ntmps4
  have tok_bc : True := trivial
  have tok_bq : True := trivial
  go_wp2_with (first
      | ((have tok := tok_bc); clear tok tok_bc; (first | (with_reducible refine Hp.wpl_box sh ?_ ?_) | (with_reducible refine Hp.wpl_alloc Try.z_line sh ?_ ?_) | (with_reducible refine Hp.wpl_alloc Try.z_chan sh ?_ ?_)); exact rfl; clear sh; (try clear F); go_simp; intro bc w1 sh; have F := sh.facts; (try simp only [Hp.Facts, Hp.CellsAt, Nat.reduceAdd, List.cons_append, List.nil_append] at F))
      | ((have tok := tok_bq); clear tok tok_bq; (first | (with_reducible refine Hp.wpl_box sh ?_ ?_) | (with_reducible refine Hp.wpl_alloc Try.z_line sh ?_ ?_) | (with_reducible refine Hp.wpl_alloc Try.z_chan sh ?_ ?_)); exact rfl; clear sh; (try clear F); go_simp; intro bq w1 sh; have F := sh.facts; (try simp only [Hp.Facts, Hp.CellsAt, Nat.reduceAdd, List.cons_append, List.nil_append] at F))
      | ((with_reducible refine Hp.wpl_box sh ?_ ?_); exact rfl; clear sh; (try clear F); go_simp; intro b w1 sh; have F := sh.facts; (try simp only [Hp.Facts, Hp.CellsAt, Nat.reduceAdd, List.cons_append, List.nil_append] at F))
      | ((with_reducible refine Hp.wpl_alloc Try.z_line sh ?_ ?_); exact rfl; clear sh; (try clear F); go_simp; intro b w1 sh; have F := sh.facts; (try simp only [Hp.Facts, Hp.CellsAt, Nat.reduceAdd, List.cons_append, List.nil_append] at F))
      | ((with_reducible refine Hp.wpl_alloc Try.z_chan sh ?_ ?_); exact rfl; clear sh; (try clear F); go_simp; intro b w1 sh; have F := sh.facts; (try simp only [Hp.Facts, Hp.CellsAt, Nat.reduceAdd, List.cons_append, List.nil_append] at F))
      | ((with_reducible refine Hp.atl_store ?_ ?_); exact rfl; (first | refine Hp.wp_store 0 sh rfl rfl rfl rfl (by kernel_rfl) (Nat.le_of_ble_eq_true rfl) rfl ?_ | refine Hp.wp_store 1 sh rfl rfl rfl rfl (by kernel_rfl) (Nat.le_of_ble_eq_true rfl) rfl ?_ | refine Hp.wp_store 2 sh rfl rfl rfl rfl (by kernel_rfl) (Nat.le_of_ble_eq_true rfl) rfl ?_ | refine Hp.wp_store 3 sh rfl rfl rfl rfl (by kernel_rfl) (Nat.le_of_ble_eq_true rfl) rfl ?_ | refine Hp.wp_store 4 sh rfl rfl rfl rfl (by kernel_rfl) (Nat.le_of_ble_eq_true rfl) rfl ?_ | refine Hp.wp_store 5 sh rfl rfl rfl rfl (by kernel_rfl) (Nat.le_of_ble_eq_true rfl) rfl ?_ | refine Hp.wp_store 6 sh rfl rfl rfl rfl (by kernel_rfl) (Nat.le_of_ble_eq_true rfl) rfl ?_); clear sh; (try clear F); go_simp; intro w1 sh; have F := sh.facts; (try simp only [Hp.Facts, Hp.CellsAt, Nat.reduceAdd, List.cons_append, List.nil_append] at F))
      | fail)
  go_fit (BG.out _ sh.data.1.1)
  rintro e w1 ⟨big, rfl, hb⟩
  replace sh := sh.call hb; clear hb F
  have F := sh.facts; (try simp only [Hp.Facts, Hp.CellsAt, Nat.reduceAdd, List.cons_append, List.nil_append] at F)
  cases big with
  | true =>
    go_wp2_with (first
        | ((with_reducible refine Hp.wpl_box sh ?_ ?_); exact rfl; clear sh; (try clear F); go_simp; intro b w1 sh; have F := sh.facts; (try simp only [Hp.Facts, Hp.CellsAt, Nat.reduceAdd, List.cons_append, List.nil_append] at F))
        | ((with_reducible refine Hp.wpl_alloc Try.z_line sh ?_ ?_); exact rfl; clear sh; (try clear F); go_simp; intro b w1 sh; have F := sh.facts; (try simp only [Hp.Facts, Hp.CellsAt, Nat.reduceAdd, List.cons_append, List.nil_append] at F))
        | ((with_reducible refine Hp.wpl_alloc Try.z_chan sh ?_ ?_); exact rfl; clear sh; (try clear F); go_simp; intro b w1 sh; have F := sh.facts; (try simp only [Hp.Facts, Hp.CellsAt, Nat.reduceAdd, List.cons_append, List.nil_append] at F))
        | ((with_reducible refine Hp.atl_store ?_ ?_); exact rfl; (first | refine Hp.wp_store 0 sh rfl rfl rfl rfl (by kernel_rfl) (Nat.le_of_ble_eq_true rfl) rfl ?_ | refine Hp.wp_store 1 sh rfl rfl rfl rfl (by kernel_rfl) (Nat.le_of_ble_eq_true rfl) rfl ?_ | refine Hp.wp_store 2 sh rfl rfl rfl rfl (by kernel_rfl) (Nat.le_of_ble_eq_true rfl) rfl ?_ | refine Hp.wp_store 3 sh rfl rfl rfl rfl (by kernel_rfl) (Nat.le_of_ble_eq_true rfl) rfl ?_ | refine Hp.wp_store 4 sh rfl rfl rfl rfl (by kernel_rfl) (Nat.le_of_ble_eq_true rfl) rfl ?_ | refine Hp.wp_store 5 sh rfl rfl rfl rfl (by kernel_rfl) (Nat.le_of_ble_eq_true rfl) rfl ?_ | refine Hp.wp_store 6 sh rfl rfl rfl rfl (by kernel_rfl) (Nat.le_of_ble_eq_true rfl) rfl ?_); clear sh; (try clear F); go_simp; intro w1 sh; have F := sh.facts; (try simp only [Hp.Facts, Hp.CellsAt, Nat.reduceAdd, List.cons_append, List.nil_append] at F))
        | fail)
    go_ret
    exact ⟨rfl, sh.below⟩
  | false =>
    by_cases h1 : 100 < la
    · go_wp2_with (first
          | ((with_reducible refine Hp.wpl_box sh ?_ ?_); exact rfl; clear sh; (try clear F); go_simp; intro b w1 sh; have F := sh.facts; (try simp only [Hp.Facts, Hp.CellsAt, Nat.reduceAdd, List.cons_append, List.nil_append] at F))
          | ((with_reducible refine Hp.wpl_alloc Try.z_line sh ?_ ?_); exact rfl; clear sh; (try clear F); go_simp; intro b w1 sh; have F := sh.facts; (try simp only [Hp.Facts, Hp.CellsAt, Nat.reduceAdd, List.cons_append, List.nil_append] at F))
          | ((with_reducible refine Hp.wpl_alloc Try.z_chan sh ?_ ?_); exact rfl; clear sh; (try clear F); go_simp; intro b w1 sh; have F := sh.facts; (try simp only [Hp.Facts, Hp.CellsAt, Nat.reduceAdd, List.cons_append, List.nil_append] at F))
          | ((with_reducible refine Hp.atl_store ?_ ?_); exact rfl; (first | refine Hp.wp_store 0 sh rfl rfl rfl rfl (by kernel_rfl) (Nat.le_of_ble_eq_true rfl) rfl ?_ | refine Hp.wp_store 1 sh rfl rfl rfl rfl (by kernel_rfl) (Nat.le_of_ble_eq_true rfl) rfl ?_ | refine Hp.wp_store 2 sh rfl rfl rfl rfl (by kernel_rfl) (Nat.le_of_ble_eq_true rfl) rfl ?_ | refine Hp.wp_store 3 sh rfl rfl rfl rfl (by kernel_rfl) (Nat.le_of_ble_eq_true rfl) rfl ?_ | refine Hp.wp_store 4 sh rfl rfl rfl rfl (by kernel_rfl) (Nat.le_of_ble_eq_true rfl) rfl ?_ | refine Hp.wp_store 5 sh rfl rfl rfl rfl (by kernel_rfl) (Nat.le_of_ble_eq_true rfl) rfl ?_ | refine Hp.wp_store 6 sh rfl rfl rfl rfl (by kernel_rfl) (Nat.le_of_ble_eq_true rfl) rfl ?_); clear sh; (try clear F); go_simp; intro w1 sh; have F := sh.facts; (try simp only [Hp.Facts, Hp.CellsAt, Nat.reduceAdd, List.cons_append, List.nil_append] at F))
          | fail)
      go_ret
      exact ⟨rfl, sh.below⟩
    by_cases h2 : 100 < lb
    · go_wp2_with (first
          | ((with_reducible refine Hp.wpl_box sh ?_ ?_); exact rfl; clear sh; (try clear F); go_simp; intro b w1 sh; have F := sh.facts; (try simp only [Hp.Facts, Hp.CellsAt, Nat.reduceAdd, List.cons_append, List.nil_append] at F))
          | ((with_reducible refine Hp.wpl_alloc Try.z_line sh ?_ ?_); exact rfl; clear sh; (try clear F); go_simp; intro b w1 sh; have F := sh.facts; (try simp only [Hp.Facts, Hp.CellsAt, Nat.reduceAdd, List.cons_append, List.nil_append] at F))
          | ((with_reducible refine Hp.wpl_alloc Try.z_chan sh ?_ ?_); exact rfl; clear sh; (try clear F); go_simp; intro b w1 sh; have F := sh.facts; (try simp only [Hp.Facts, Hp.CellsAt, Nat.reduceAdd, List.cons_append, List.nil_append] at F))
          | ((with_reducible refine Hp.atl_store ?_ ?_); exact rfl; (first | refine Hp.wp_store 0 sh rfl rfl rfl rfl (by kernel_rfl) (Nat.le_of_ble_eq_true rfl) rfl ?_ | refine Hp.wp_store 1 sh rfl rfl rfl rfl (by kernel_rfl) (Nat.le_of_ble_eq_true rfl) rfl ?_ | refine Hp.wp_store 2 sh rfl rfl rfl rfl (by kernel_rfl) (Nat.le_of_ble_eq_true rfl) rfl ?_ | refine Hp.wp_store 3 sh rfl rfl rfl rfl (by kernel_rfl) (Nat.le_of_ble_eq_true rfl) rfl ?_ | refine Hp.wp_store 4 sh rfl rfl rfl rfl (by kernel_rfl) (Nat.le_of_ble_eq_true rfl) rfl ?_ | refine Hp.wp_store 5 sh rfl rfl rfl rfl (by kernel_rfl) (Nat.le_of_ble_eq_true rfl) rfl ?_ | refine Hp.wp_store 6 sh rfl rfl rfl rfl (by kernel_rfl) (Nat.le_of_ble_eq_true rfl) rfl ?_); clear sh; (try clear F); go_simp; intro w1 sh; have F := sh.facts; (try simp only [Hp.Facts, Hp.CellsAt, Nat.reduceAdd, List.cons_append, List.nil_append] at F))
          | fail)
      go_ret
      exact ⟨rfl, sh.below⟩
    go_wp2_with (first
        | ((with_reducible refine Hp.wpl_box sh ?_ ?_); exact rfl; clear sh; (try clear F); go_simp; intro b w1 sh; have F := sh.facts; (try simp only [Hp.Facts, Hp.CellsAt, Nat.reduceAdd, List.cons_append, List.nil_append] at F))
        | ((with_reducible refine Hp.wpl_alloc Try.z_line sh ?_ ?_); exact rfl; clear sh; (try clear F); go_simp; intro b w1 sh; have F := sh.facts; (try simp only [Hp.Facts, Hp.CellsAt, Nat.reduceAdd, List.cons_append, List.nil_append] at F))
        | ((with_reducible refine Hp.wpl_alloc Try.z_chan sh ?_ ?_); exact rfl; clear sh; (try clear F); go_simp; intro b w1 sh; have F := sh.facts; (try simp only [Hp.Facts, Hp.CellsAt, Nat.reduceAdd, List.cons_append, List.nil_append] at F))
        | ((with_reducible refine Hp.atl_store ?_ ?_); exact rfl; (first | refine Hp.wp_store 0 sh rfl rfl rfl rfl (by kernel_rfl) (Nat.le_of_ble_eq_true rfl) rfl ?_ | refine Hp.wp_store 1 sh rfl rfl rfl rfl (by kernel_rfl) (Nat.le_of_ble_eq_true rfl) rfl ?_ | refine Hp.wp_store 2 sh rfl rfl rfl rfl (by kernel_rfl) (Nat.le_of_ble_eq_true rfl) rfl ?_ | refine Hp.wp_store 3 sh rfl rfl rfl rfl (by kernel_rfl) (Nat.le_of_ble_eq_true rfl) rfl ?_ | refine Hp.wp_store 4 sh rfl rfl rfl rfl (by kernel_rfl) (Nat.le_of_ble_eq_true rfl) rfl ?_ | refine Hp.wp_store 5 sh rfl rfl rfl rfl (by kernel_rfl) (Nat.le_of_ble_eq_true rfl) rfl ?_ | refine Hp.wp_store 6 sh rfl rfl rfl rfl (by kernel_rfl) (Nat.le_of_ble_eq_true rfl) rfl ?_); clear sh; (try clear F); go_simp; intro w1 sh; have F := sh.facts; (try simp only [Hp.Facts, Hp.CellsAt, Nat.reduceAdd, List.cons_append, List.nil_append] at F))
        | fail)
    go_fit (SA.out _ _ _ sh (fun W h => h.1) (fun W h => h.2.1))
    clear sh; (try clear F)
    rintro e w1 ⟨s1, hs1, cap1, n1, c1, rfl, hh1, sh⟩
    have F := sh.facts; (try simp only [Hp.Facts, Hp.CellsAt, Nat.reduceAdd, List.cons_append, List.nil_append] at F)
    have tok_b10 : True := trivial
    go_wp2_with (first
        | ((have tok := tok_b10); clear tok tok_b10; (first | (with_reducible refine Hp.wpl_box sh ?_ ?_) | (with_reducible refine Hp.wpl_alloc Try.z_line sh ?_ ?_) | (with_reducible refine Hp.wpl_alloc Try.z_chan sh ?_ ?_)); exact rfl; clear sh; (try clear F); go_simp; intro b10 w1 sh; have F := sh.facts; (try simp only [Hp.Facts, Hp.CellsAt, Nat.reduceAdd, List.cons_append, List.nil_append] at F))
        | ((with_reducible refine Hp.wpl_box sh ?_ ?_); exact rfl; clear sh; (try clear F); go_simp; intro b w1 sh; have F := sh.facts; (try simp only [Hp.Facts, Hp.CellsAt, Nat.reduceAdd, List.cons_append, List.nil_append] at F))
        | ((with_reducible refine Hp.wpl_alloc Try.z_line sh ?_ ?_); exact rfl; clear sh; (try clear F); go_simp; intro b w1 sh; have F := sh.facts; (try simp only [Hp.Facts, Hp.CellsAt, Nat.reduceAdd, List.cons_append, List.nil_append] at F))
        | ((with_reducible refine Hp.wpl_alloc Try.z_chan sh ?_ ?_); exact rfl; clear sh; (try clear F); go_simp; intro b w1 sh; have F := sh.facts; (try simp only [Hp.Facts, Hp.CellsAt, Nat.reduceAdd, List.cons_append, List.nil_append] at F))
        | ((with_reducible refine Hp.atl_store ?_ ?_); exact rfl; (first | refine Hp.wp_store 0 sh rfl rfl rfl rfl (by kernel_rfl) (Nat.le_of_ble_eq_true rfl) rfl ?_ | refine Hp.wp_store 1 sh rfl rfl rfl rfl (by kernel_rfl) (Nat.le_of_ble_eq_true rfl) rfl ?_ | refine Hp.wp_store 2 sh rfl rfl rfl rfl (by kernel_rfl) (Nat.le_of_ble_eq_true rfl) rfl ?_ | refine Hp.wp_store 3 sh rfl rfl rfl rfl (by kernel_rfl) (Nat.le_of_ble_eq_true rfl) rfl ?_ | refine Hp.wp_store 4 sh rfl rfl rfl rfl (by kernel_rfl) (Nat.le_of_ble_eq_true rfl) rfl ?_ | refine Hp.wp_store 5 sh rfl rfl rfl rfl (by kernel_rfl) (Nat.le_of_ble_eq_true rfl) rfl ?_ | refine Hp.wp_store 6 sh rfl rfl rfl rfl (by kernel_rfl) (Nat.le_of_ble_eq_true rfl) rfl ?_); clear sh; (try clear F); go_simp; intro w1 sh; have F := sh.facts; (try simp only [Hp.Facts, Hp.CellsAt, Nat.reduceAdd, List.cons_append, List.nil_append] at F))
        | fail)
    go_fit (SB.out _ _ _ sh (fun W h => h.2.1) (fun W h => h.2.2.2))
    clear sh; (try clear F)
    rintro e w1 ⟨s2, hs2, cap2, n2, c2, rfl, hh2, sh⟩
    have F := sh.facts; (try simp only [Hp.Facts, Hp.CellsAt, Nat.reduceAdd, List.cons_append, List.nil_append] at F)
    by_cases hc1 : c1 = 0
    · subst hc1
      by_cases hc2 : c2 = 0
      · subst hc2
        have hz := QueP.scode_zero hh1.out.2.1.symm
        have hz2 := QueP.scode_zero hh2.out.2.1.symm
        have hd1 := hh1.out.2.2.2 rfl
        have hd2 := hh2.out.2.2.2 rfl
        have hx1 := hh1.out.2.2.1
        have hx2 := hh2.out.2.2.1
        obtain ⟨p1, x1, rfl, hp1, hx1d⟩ := QueP.sent_split hd1
        obtain ⟨p2, x2, rfl, hp2, hx2d⟩ := QueP.sent_split hd2
        have hn1 : n1 = n + 1 := by
          have e1 := hh1.out.1
          have e2 := congrArg List.length hp1
          simp [QueP.qd] at e1 e2
          have := HN.out
          omega
        have hn2 : n2 = n + 1 := by
          have e1 := hh2.out.1
          have e2 := congrArg List.length hp2
          simp [QueP.qd] at e1 e2
          have := HN.out
          omega
        have hl1 : n = p1.length := by
          have e2 := congrArg List.length hp1
          simp [QueP.qd] at e2
          have := HN.out
          omega
        have hl2 : n = p2.length := by
          have e2 := congrArg List.length hp2
          simp [QueP.qd] at e2
          have := HN.out
          omega
        obtain ⟨q1, rfl⟩ : ∃ q, s1 = some q := by
          cases s1 with
          | none => have := (hx1.1 rfl).1; simp at this
          | some q => exact ⟨q, rfl⟩
        obtain ⟨q2, rfl⟩ : ∃ q, s2 = some q := by
          cases s2 with
          | none => have := (hx2.1 rfl).1; simp at this
          | some q => exact ⟨q, rfl⟩
        subst hn1 hn2
        have hn16 : n ≤ 16 := by
          have h3 := (QueP.isd_iff.1 hz.1).2.2.2.1
          have h4 := hz.2.2
          simp only [QueP.qd, List.length_map] at h4
          have := HN.out
          omega
        have HL1 := Lib.hid hl1
        have HL2 := Lib.hid hl2
        have hm1 : n + 1 ≤ cap1 := by have := hx1.2.1; simp [← hl1] at this; omega
        have hisd := QueP.isd_snoc hz.1 (by exact hz.2.1) hz.2.2
        have RC := Lib.hid (fun w1 H D sh h1 => qrecv kd fr tg size dep (some q1) (p1 ++ [x1]) cap1 (n + 1) w w1 H D sh hsz hdp (by simp [← hl1]) hx1 h1)
        have HR0 := Lib.hid (QueP.rcode_zero hisd (by simp))
        have HD1 := Lib.hid hd1
        have HP1 := Lib.hid hp1
        have HP2 := Lib.hid hp2
        have HIS := Lib.hid hisd
        have HZ := Lib.hid hz
        have HX1 := Lib.hid hx1
        have HX2 := Lib.hid hx2
        have HX1D := Lib.hid hx1d
        have HX2D := Lib.hid hx2d
        clear hh1 hh2 hz hz2 hd1 hd2 hx1 hx2 hp1 hp2 hl1 hl2 hisd hx1d hx2d
        have tok_b12 : True := trivial
        go_wp2_with (first
            | ((have tok := tok_b12); clear tok tok_b12; (first | (with_reducible refine Hp.wpl_box sh ?_ ?_) | (with_reducible refine Hp.wpl_alloc Try.z_line sh ?_ ?_) | (with_reducible refine Hp.wpl_alloc Try.z_chan sh ?_ ?_)); exact rfl; clear sh; (try clear F); go_simp; intro b12 w1 sh; have F := sh.facts; (try simp only [Hp.Facts, Hp.CellsAt, Nat.reduceAdd, List.cons_append, List.nil_append] at F))
            | ((with_reducible refine Hp.wpl_box sh ?_ ?_); exact rfl; clear sh; (try clear F); go_simp; intro b w1 sh; have F := sh.facts; (try simp only [Hp.Facts, Hp.CellsAt, Nat.reduceAdd, List.cons_append, List.nil_append] at F))
            | ((with_reducible refine Hp.wpl_alloc Try.z_line sh ?_ ?_); exact rfl; clear sh; (try clear F); go_simp; intro b w1 sh; have F := sh.facts; (try simp only [Hp.Facts, Hp.CellsAt, Nat.reduceAdd, List.cons_append, List.nil_append] at F))
            | ((with_reducible refine Hp.wpl_alloc Try.z_chan sh ?_ ?_); exact rfl; clear sh; (try clear F); go_simp; intro b w1 sh; have F := sh.facts; (try simp only [Hp.Facts, Hp.CellsAt, Nat.reduceAdd, List.cons_append, List.nil_append] at F))
            | ((with_reducible refine Hp.atl_store ?_ ?_); exact rfl; (first | refine Hp.wp_store 0 sh rfl rfl rfl rfl (by kernel_rfl) (Nat.le_of_ble_eq_true rfl) rfl ?_ | refine Hp.wp_store 1 sh rfl rfl rfl rfl (by kernel_rfl) (Nat.le_of_ble_eq_true rfl) rfl ?_ | refine Hp.wp_store 2 sh rfl rfl rfl rfl (by kernel_rfl) (Nat.le_of_ble_eq_true rfl) rfl ?_ | refine Hp.wp_store 3 sh rfl rfl rfl rfl (by kernel_rfl) (Nat.le_of_ble_eq_true rfl) rfl ?_ | refine Hp.wp_store 4 sh rfl rfl rfl rfl (by kernel_rfl) (Nat.le_of_ble_eq_true rfl) rfl ?_ | refine Hp.wp_store 5 sh rfl rfl rfl rfl (by kernel_rfl) (Nat.le_of_ble_eq_true rfl) rfl ?_ | refine Hp.wp_store 6 sh rfl rfl rfl rfl (by kernel_rfl) (Nat.le_of_ble_eq_true rfl) rfl ?_); clear sh; (try clear F); go_simp; intro w1 sh; have F := sh.facts; (try simp only [Hp.Facts, Hp.CellsAt, Nat.reduceAdd, List.cons_append, List.nil_append] at F))
            | fail)
        go_fit (RC.out _ _ _ sh (fun W h => h.2.1))
        clear sh; (try clear F)
        rintro e w1 ⟨xs, xz, xc, xn, s3, hs3, cap3, n3, c3, rfl, hh3, sh⟩
        have F := sh.facts; (try simp only [Hp.Facts, Hp.CellsAt, Nat.reduceAdd, List.cons_append, List.nil_append] at F)
        have hc3 : c3 = 0 := by rw [hh3.out.2.2.1, HD1.out, HR0.out]
        subst hc3
        have hzd := hh3.out.2.2.2.2.2 rfl
        have hn3 : n3 = n := by
          have e1 := hh3.out.1
          have e2 := congrArg List.length hzd
          simp [QueP.qd] at e1 e2
          have := HL1.out
          omega
        have hisz : QueP.isd size dep (hs3.map (·.2.1)) = true := by
          have h := HIS.out
          rw [← HD1.out, hzd] at h
          exact QueP.isd_tail h
        obtain ⟨x11, x12, x13⟩ := x1
        obtain ⟨x21, x22, x23⟩ := x2
        obtain rfl : x12 = a2 := HX1D.out
        obtain rfl : x22 = b2 := HX2D.out
        have hle : (n : Int) ≤ dep ∧ dep ≤ 16 := by
          have h := QueP.isd_iff.1 HZ.out.1
          have e := HZ.out.2.2
          have e2 := HN.out
          simp only [QueP.qd, List.length_map] at e
          omega
        have R1 := Lib.hid (fun W h => qroom kd fr tg size dep s3 hs3 cap3 n W hsz hdp (by have := hh3.out.1; omega) hh3.out.2.2.2.1 h)
        have R2 := Lib.hid (fun W h => qroom kd fr tg size dep s hs cap n W hsz hdp HN.out HQ.out h)
        rw [hisz, if_pos rfl] at R1
        rw [show QueP.isd size dep (hs.map (·.2.1)) = true from HZ.out.1, if_pos rfl] at R2
        have SQ := Lib.hid (fun W h1 h2 => qsame (some q1) s p1 hs n n cap1 cap W HL1.out HN.out hq4 (fun h hh => HX1.out.2.2.2.2 h (by simp [hh])) HQ.out.2.2.2.2 h1 h2)
        rw [show (p1.map (·.2.1) == hs.map (·.2.1)) = true by rw [HP1.out]; simp [QueP.qd]] at SQ
        have S1 := Lib.hid (fun W h1 h2 => same19 x11 a1 x12 x12 la la x13 a3 W HLA.out HLA.out h1 h2 (by omega))
        have S2 := Lib.hid (fun W h1 h2 => same19 x21 b1 x22 x22 lb lb x23 b3 W HLB.out HLB.out h1 h2 (by omega))
        rw [show (x12 == x12) = true by simp] at S1
        rw [show (x22 == x22) = true by simp] at S2
        have CX := Lib.hid (fun W (h : QueP.QOk W (some q1, p1 ++ [(x11, x12, x13)], cap1)) => (show W.cell? (q1.add n) = some (.slice x11 la x13) from by rw [HL1.out, HLA.out]; exact (QueP.QOk_last h).1))
        have CY := Lib.hid (fun W (h : QueP.QOk W (some q2, p2 ++ [(x21, x22, x23)], cap2)) => (show W.cell? (q2.add n) = some (.slice x21 lb x23) from by rw [HL2.out, HLB.out]; exact (QueP.QOk_last h).1))
        obtain ⟨hle1, hle2⟩ := hle
        have hm2 : n ≤ cap1 := by omega
        have hm3 : ¬ cap1 = 0 := by omega
        subst hn3
        have hlt1 : (n3 : Int) < (n3 : Int) + 1 := by omega
        clear hh3 hzd hisz HR0 HD1 HIS HX1D HX2D RC SA SB BG HLA HLB HP1 HP2 HX1 HX2 HZ HQ HA HB
        go_wp2_with (first
            | ((with_reducible refine Hp.wpl_box sh ?_ ?_); exact rfl; clear sh; (try clear F); go_simp; intro b w1 sh; have F := sh.facts; (try simp only [Hp.Facts, Hp.CellsAt, Nat.reduceAdd, List.cons_append, List.nil_append] at F))
            | ((with_reducible refine Hp.wpl_alloc Try.z_line sh ?_ ?_); exact rfl; clear sh; (try clear F); go_simp; intro b w1 sh; have F := sh.facts; (try simp only [Hp.Facts, Hp.CellsAt, Nat.reduceAdd, List.cons_append, List.nil_append] at F))
            | ((with_reducible refine Hp.wpl_alloc Try.z_chan sh ?_ ?_); exact rfl; clear sh; (try clear F); go_simp; intro b w1 sh; have F := sh.facts; (try simp only [Hp.Facts, Hp.CellsAt, Nat.reduceAdd, List.cons_append, List.nil_append] at F))
            | ((with_reducible refine Hp.atl_store ?_ ?_); exact rfl; (first | refine Hp.wp_store 0 sh rfl rfl rfl rfl (by kernel_rfl) (Nat.le_of_ble_eq_true rfl) rfl ?_ | refine Hp.wp_store 1 sh rfl rfl rfl rfl (by kernel_rfl) (Nat.le_of_ble_eq_true rfl) rfl ?_ | refine Hp.wp_store 2 sh rfl rfl rfl rfl (by kernel_rfl) (Nat.le_of_ble_eq_true rfl) rfl ?_ | refine Hp.wp_store 3 sh rfl rfl rfl rfl (by kernel_rfl) (Nat.le_of_ble_eq_true rfl) rfl ?_ | refine Hp.wp_store 4 sh rfl rfl rfl rfl (by kernel_rfl) (Nat.le_of_ble_eq_true rfl) rfl ?_ | refine Hp.wp_store 5 sh rfl rfl rfl rfl (by kernel_rfl) (Nat.le_of_ble_eq_true rfl) rfl ?_ | refine Hp.wp_store 6 sh rfl rfl rfl rfl (by kernel_rfl) (Nat.le_of_ble_eq_true rfl) rfl ?_); clear sh; (try clear F); go_simp; intro w1 sh; have F := sh.facts; (try simp only [Hp.Facts, Hp.CellsAt, Nat.reduceAdd, List.cons_append, List.nil_append] at F))
            | fail)
        refine Hp.region_sh (by kernel_rfl) sh ?_; clear sh F; intro w1 sh; have F := sh.facts; (try simp only [Hp.Facts, Hp.CellsAt, Nat.reduceAdd, List.cons_append, List.nil_append] at F)
        refine Hp.branch [0] (by kernel_rfl) (by simp) ?_
        refine Hp.Each.cons ?_ ?_
        · refine Hp.op_step (o := ⟨some 81, Op.call { callee := Callee.value (Operand.func 8), args := #[], argTypes := #[] }, _, _, _, none⟩) rfl (by rfl) (fun K hK => ?_)
          go_simp
          go_fit (qlined _); rintro e w1 ⟨rfl, hb⟩; replace sh := sh.call hb; clear hb F; have F := sh.facts; go_simp
          refine hK _ _ ⟨sh.facts, sh.data⟩ ?_; clear hK K; (try simp only [Act.put, List.setIfInBounds_toArray, List.set_cons_zero, List.set_cons_succ])
          refine Hp.take (i := 1) (oi := ⟨some 82, Op.move (Operand.tmp 81), _, _, _, none⟩) (v := ?_) rfl (by kernel_rfl) (by kernel_rfl) (by kernel_rfl) (fun _ _ _ h => h) (by rfl) ⟨sh.facts, sh.data⟩ ?_ ?_
          rotate_left
          · intro w' hh
            clear hh; go_simp
            try with_reducible rfl
          (try simp only [Act.put, List.setIfInBounds_toArray, List.set_cons_zero, List.set_cons_succ])
          refine Hp.take (i := 2) (oi := ⟨some 83, Op.fieldAddr 27 (Operand.tmp 10) 0, _, _, _, some (1, true)⟩) (v := ?_) rfl (by kernel_rfl) (by kernel_rfl) (by kernel_rfl) (fun _ _ _ h => h) (by rfl) ⟨sh.facts, sh.data⟩ ?_ ?_
          rotate_left
          · intro w' hh
            clear hh; go_simp
            try with_reducible rfl
          (try simp only [Act.put, List.setIfInBounds_toArray, List.set_cons_zero, List.set_cons_succ])
          refine Hp.take (i := 3) (oi := ⟨some 84, Op.load 25 (Operand.tmp 83), _, _, _, some (1, true)⟩) (v := ?_) rfl (by kernel_rfl) (by kernel_rfl) (by kernel_rfl) (fun _ _ _ h => h) (by rfl) ⟨sh.facts, sh.data⟩ ?_ ?_
          rotate_left
          · intro w' hh
            have F' := hh.1; have hd := hh.2; clear hh; (try simp only [Hp.Facts, Hp.CellsAt, Nat.reduceAdd, List.cons_append, List.nil_append] at F'); have hcx := CX.out w' hd.2.2.1; have hcy := CY.out w' hd.2.1
            go_simp
            try with_reducible rfl
          (try simp only [Act.put, List.setIfInBounds_toArray, List.set_cons_zero, List.set_cons_succ])
          refine Hp.take (i := 4) (oi := ⟨some 85, Op.move (Operand.tmp 9), _, _, _, some (1, true)⟩) (v := ?_) rfl (by kernel_rfl) (by kernel_rfl) (by kernel_rfl) (fun _ _ _ h => h) (by rfl) ⟨sh.facts, sh.data⟩ ?_ ?_
          rotate_left
          · intro w' hh
            clear hh; go_simp
            try with_reducible rfl
          (try simp only [Act.put, List.setIfInBounds_toArray, List.set_cons_zero, List.set_cons_succ])
          refine Hp.take (i := 5) (oi := ⟨some 86, Op.indexAddr 25 (Operand.tmp 84) (Operand.tmp 85), _, _, _, some (1, true)⟩) (v := ?_) rfl (by kernel_rfl) (by kernel_rfl) (by kernel_rfl) (fun _ _ _ h => h) (by rfl) ⟨sh.facts, sh.data⟩ ?_ ?_
          rotate_left
          · intro w' hh
            clear hh; go_simp
            try with_reducible rfl
          (try simp only [Act.put, List.setIfInBounds_toArray, List.set_cons_zero, List.set_cons_succ])
          refine Hp.take (i := 6) (oi := ⟨some 87, Op.load 28 (Operand.tmp 86), _, _, _, some (1, true)⟩) (v := ?_) rfl (by kernel_rfl) (by kernel_rfl) (by kernel_rfl) (fun _ _ _ h => h) (by rfl) ⟨sh.facts, sh.data⟩ ?_ ?_
          rotate_left
          · intro w' hh
            have F' := hh.1; have hd := hh.2; clear hh; (try simp only [Hp.Facts, Hp.CellsAt, Nat.reduceAdd, List.cons_append, List.nil_append] at F'); have hcx := CX.out w' hd.2.2.1; have hcy := CY.out w' hd.2.1
            go_simp
            try with_reducible rfl
          (try simp only [Act.put, List.setIfInBounds_toArray, List.set_cons_zero, List.set_cons_succ])
          refine Hp.take (i := 7) (oi := ⟨some 88, Op.move (Operand.tmp 2), _, _, _, some (1, true)⟩) (v := ?_) rfl (by kernel_rfl) (by kernel_rfl) (by kernel_rfl) (fun _ _ _ h => h) (by rfl) ⟨sh.facts, sh.data⟩ ?_ ?_
          rotate_left
          · intro w' hh
            clear hh; go_simp
            try with_reducible rfl
          (try simp only [Act.put, List.setIfInBounds_toArray, List.set_cons_zero, List.set_cons_succ])
          refine Hp.branch [8] (by kernel_rfl) (by simp) ?_
          refine Hp.Each.cons ?_ ?_
          · refine Hp.op_step (o := ⟨some 89, Op.call { callee := Callee.value (Operand.func 7), args := #[Operand.tmp 87, Operand.tmp 88], argTypes := #[28, 28] }, _, _, _, some (1, true)⟩) rfl (by rfl) (fun K hK => ?_)
            go_simp
            go_fit (S1.out _ (QueP.QOk_last sh.data.2.2.1).2 sh.data.2.2.2.2.1); rintro e w1 ⟨rfl, hb⟩; replace sh := sh.call hb; clear hb F; have F := sh.facts; go_simp
            refine hK _ _ ⟨sh.facts, sh.data⟩ ?_; clear hK K; (try simp only [Act.put, List.setIfInBounds_toArray, List.set_cons_zero, List.set_cons_succ])
            refine Hp.take (i := 9) (oi := ⟨some 90, Op.pick (Operand.tmp 82) (Operand.tmp 89) (Operand.const (Value.bool false)), _, _, _, none⟩) (v := ?_) rfl (by kernel_rfl) (by kernel_rfl) (by kernel_rfl) (fun _ _ _ h => h) (by rfl) ⟨sh.facts, sh.data⟩ ?_ ?_
            rotate_left
            · intro w' hh
              clear hh; go_simp
              try with_reducible rfl
            (try simp only [Act.put, List.setIfInBounds_toArray, List.set_cons_zero, List.set_cons_succ])
            refine Hp.take (i := 10) (oi := ⟨some 91, Op.move (Operand.tmp 90), _, _, _, none⟩) (v := ?_) rfl (by kernel_rfl) (by kernel_rfl) (by kernel_rfl) (fun _ _ _ h => h) (by rfl) ⟨sh.facts, sh.data⟩ ?_ ?_
            rotate_left
            · intro w' hh
              clear hh; go_simp
              try with_reducible rfl
            (try simp only [Act.put, List.setIfInBounds_toArray, List.set_cons_zero, List.set_cons_succ])
            refine Hp.take (i := 11) (oi := ⟨some 92, Op.fieldAddr 27 (Operand.tmp 12) 0, _, _, _, some (10, true)⟩) (v := ?_) rfl (by kernel_rfl) (by kernel_rfl) (by kernel_rfl) (fun _ _ _ h => h) (by rfl) ⟨sh.facts, sh.data⟩ ?_ ?_
            rotate_left
            · intro w' hh
              clear hh; go_simp
              try with_reducible rfl
            (try simp only [Act.put, List.setIfInBounds_toArray, List.set_cons_zero, List.set_cons_succ])
            refine Hp.take (i := 12) (oi := ⟨some 93, Op.load 25 (Operand.tmp 92), _, _, _, some (10, true)⟩) (v := ?_) rfl (by kernel_rfl) (by kernel_rfl) (by kernel_rfl) (fun _ _ _ h => h) (by rfl) ⟨sh.facts, sh.data⟩ ?_ ?_
            rotate_left
            · intro w' hh
              have F' := hh.1; have hd := hh.2; clear hh; (try simp only [Hp.Facts, Hp.CellsAt, Nat.reduceAdd, List.cons_append, List.nil_append] at F'); have hcx := CX.out w' hd.2.2.1; have hcy := CY.out w' hd.2.1
              go_simp
              try with_reducible rfl
            (try simp only [Act.put, List.setIfInBounds_toArray, List.set_cons_zero, List.set_cons_succ])
            refine Hp.take (i := 13) (oi := ⟨some 94, Op.move (Operand.tmp 9), _, _, _, some (10, true)⟩) (v := ?_) rfl (by kernel_rfl) (by kernel_rfl) (by kernel_rfl) (fun _ _ _ h => h) (by rfl) ⟨sh.facts, sh.data⟩ ?_ ?_
            rotate_left
            · intro w' hh
              clear hh; go_simp
              try with_reducible rfl
            (try simp only [Act.put, List.setIfInBounds_toArray, List.set_cons_zero, List.set_cons_succ])
            refine Hp.take (i := 14) (oi := ⟨some 95, Op.indexAddr 25 (Operand.tmp 93) (Operand.tmp 94), _, _, _, some (10, true)⟩) (v := ?_) rfl (by kernel_rfl) (by kernel_rfl) (by kernel_rfl) (fun _ _ _ h => h) (by rfl) ⟨sh.facts, sh.data⟩ ?_ ?_
            rotate_left
            · intro w' hh
              clear hh; go_simp
              try with_reducible rfl
            (try simp only [Act.put, List.setIfInBounds_toArray, List.set_cons_zero, List.set_cons_succ])
            refine Hp.take (i := 15) (oi := ⟨some 96, Op.load 28 (Operand.tmp 95), _, _, _, some (10, true)⟩) (v := ?_) rfl (by kernel_rfl) (by kernel_rfl) (by kernel_rfl) (fun _ _ _ h => h) (by rfl) ⟨sh.facts, sh.data⟩ ?_ ?_
            rotate_left
            · intro w' hh
              have F' := hh.1; have hd := hh.2; clear hh; (try simp only [Hp.Facts, Hp.CellsAt, Nat.reduceAdd, List.cons_append, List.nil_append] at F'); have hcx := CX.out w' hd.2.2.1; have hcy := CY.out w' hd.2.1
              go_simp
              try with_reducible rfl
            (try simp only [Act.put, List.setIfInBounds_toArray, List.set_cons_zero, List.set_cons_succ])
            refine Hp.take (i := 16) (oi := ⟨some 97, Op.move (Operand.tmp 3), _, _, _, some (10, true)⟩) (v := ?_) rfl (by kernel_rfl) (by kernel_rfl) (by kernel_rfl) (fun _ _ _ h => h) (by rfl) ⟨sh.facts, sh.data⟩ ?_ ?_
            rotate_left
            · intro w' hh
              clear hh; go_simp
              try with_reducible rfl
            (try simp only [Act.put, List.setIfInBounds_toArray, List.set_cons_zero, List.set_cons_succ])
            refine Hp.branch [17] (by kernel_rfl) (by simp) ?_
            refine Hp.Each.cons ?_ ?_
            · refine Hp.op_step (o := ⟨some 98, Op.call { callee := Callee.value (Operand.func 7), args := #[Operand.tmp 96, Operand.tmp 97], argTypes := #[28, 28] }, _, _, _, some (10, true)⟩) rfl (by rfl) (fun K hK => ?_)
              go_simp
              go_fit (S2.out _ (QueP.QOk_last sh.data.2.1).2 sh.data.2.2.2.2.2); rintro e w1 ⟨rfl, hb⟩; replace sh := sh.call hb; clear hb F; have F := sh.facts; go_simp
              refine hK _ _ ⟨sh.facts, sh.data⟩ ?_; clear hK K; (try simp only [Act.put, List.setIfInBounds_toArray, List.set_cons_zero, List.set_cons_succ])
              refine Hp.take (i := 18) (oi := ⟨some 99, Op.pick (Operand.tmp 91) (Operand.tmp 98) (Operand.const (Value.bool false)), _, _, _, none⟩) (v := ?_) rfl (by kernel_rfl) (by kernel_rfl) (by kernel_rfl) (fun _ _ _ h => h) (by rfl) ⟨sh.facts, sh.data⟩ ?_ ?_
              rotate_left
              · intro w' hh
                clear hh; go_simp
                try with_reducible rfl
              (try simp only [Act.put, List.setIfInBounds_toArray, List.set_cons_zero, List.set_cons_succ])
              refine Hp.take (i := 19) (oi := ⟨some 100, Op.move (Operand.tmp 99), _, _, _, none⟩) (v := ?_) rfl (by kernel_rfl) (by kernel_rfl) (by kernel_rfl) (fun _ _ _ h => h) (by rfl) ⟨sh.facts, sh.data⟩ ?_ ?_
              rotate_left
              · intro w' hh
                clear hh; go_simp
                try with_reducible rfl
              (try simp only [Act.put, List.setIfInBounds_toArray, List.set_cons_zero, List.set_cons_succ])
              refine Hp.take (i := 20) (oi := ⟨some 101, Op.fieldAddr 27 (Operand.tmp 10) 0, _, _, _, some (19, true)⟩) (v := ?_) rfl (by kernel_rfl) (by kernel_rfl) (by kernel_rfl) (fun _ _ _ h => h) (by rfl) ⟨sh.facts, sh.data⟩ ?_ ?_
              rotate_left
              · intro w' hh
                clear hh; go_simp
                try with_reducible rfl
              (try simp only [Act.put, List.setIfInBounds_toArray, List.set_cons_zero, List.set_cons_succ])
              refine Hp.take (i := 21) (oi := ⟨some 102, Op.load 25 (Operand.tmp 101), _, _, _, some (19, true)⟩) (v := ?_) rfl (by kernel_rfl) (by kernel_rfl) (by kernel_rfl) (fun _ _ _ h => h) (by rfl) ⟨sh.facts, sh.data⟩ ?_ ?_
              rotate_left
              · intro w' hh
                have F' := hh.1; have hd := hh.2; clear hh; (try simp only [Hp.Facts, Hp.CellsAt, Nat.reduceAdd, List.cons_append, List.nil_append] at F'); have hcx := CX.out w' hd.2.2.1; have hcy := CY.out w' hd.2.1
                go_simp
                try with_reducible rfl
              (try simp only [Act.put, List.setIfInBounds_toArray, List.set_cons_zero, List.set_cons_succ])
              refine Hp.take (i := 22) (oi := ⟨some 103, Op.move (Operand.tmp 9), _, _, _, some (19, true)⟩) (v := ?_) rfl (by kernel_rfl) (by kernel_rfl) (by kernel_rfl) (fun _ _ _ h => h) (by rfl) ⟨sh.facts, sh.data⟩ ?_ ?_
              rotate_left
              · intro w' hh
                clear hh; go_simp
                try with_reducible rfl
              (try simp only [Act.put, List.setIfInBounds_toArray, List.set_cons_zero, List.set_cons_succ])
              refine Hp.take (i := 23) (oi := ⟨some 104, Op.slice 25 (Operand.tmp 102) none (some (Operand.tmp 103)) none, _, _, _, some (19, true)⟩) (v := ?_) rfl (by kernel_rfl) (by kernel_rfl) (by kernel_rfl) (fun _ _ _ h => h) (by rfl) ⟨sh.facts, sh.data⟩ ?_ ?_
              rotate_left
              · intro w' hh
                clear hh; go_simp
                try with_reducible rfl
              (try simp only [Act.put, List.setIfInBounds_toArray, List.set_cons_zero, List.set_cons_succ])
              refine Hp.take (i := 24) (oi := ⟨some 105, Op.build 27 #[(0, Operand.tmp 104)], _, _, _, some (19, true)⟩) (v := ?_) rfl (by kernel_rfl) (by kernel_rfl) (by kernel_rfl) (fun _ _ _ h => h) (by rfl) ⟨sh.facts, sh.data⟩ ?_ ?_
              rotate_left
              · intro w' hh
                clear hh; go_simp
                try with_reducible rfl
              (try simp only [Act.put, List.setIfInBounds_toArray, List.set_cons_zero, List.set_cons_succ])
              refine Hp.take (i := 25) (oi := ⟨some 106, Op.load 27 (Operand.tmp 5), _, _, _, some (19, true)⟩) (v := ?_) rfl (by kernel_rfl) (by kernel_rfl) (by kernel_rfl) (fun _ _ _ h => h) (by rfl) ⟨sh.facts, sh.data⟩ ?_ ?_
              rotate_left
              · intro w' hh
                have F' := hh.1; have hd := hh.2; clear hh; (try simp only [Hp.Facts, Hp.CellsAt, Nat.reduceAdd, List.cons_append, List.nil_append] at F'); have hcx := CX.out w' hd.2.2.1; have hcy := CY.out w' hd.2.1
                go_simp
                try with_reducible rfl
              (try simp only [Act.put, List.setIfInBounds_toArray, List.set_cons_zero, List.set_cons_succ])
              refine Hp.branch [26] (by kernel_rfl) (by simp) ?_
              refine Hp.Each.cons ?_ ?_
              · refine Hp.op_step (o := ⟨some 107, Op.call { callee := Callee.value (Operand.func 9), args := #[Operand.tmp 105, Operand.tmp 106], argTypes := #[27, 27] }, _, _, _, some (19, true)⟩) rfl (by rfl) (fun K hK => ?_)
                go_simp
                go_fit (SQ.out _ (QueP.QOk_pre sh.data.2.2.1) sh.data.2.2.2.1); rintro e w1 ⟨rfl, hb⟩; replace sh := sh.call hb; clear hb F; have F := sh.facts; go_simp
                refine hK _ _ ⟨sh.facts, sh.data⟩ ?_; clear hK K; (try simp only [Act.put, List.setIfInBounds_toArray, List.set_cons_zero, List.set_cons_succ])
                refine Hp.take (i := 27) (oi := ⟨some 108, Op.pick (Operand.tmp 100) (Operand.tmp 107) (Operand.const (Value.bool false)), _, _, _, none⟩) (v := ?_) rfl (by kernel_rfl) (by kernel_rfl) (by kernel_rfl) (fun _ _ _ h => h) (by rfl) ⟨sh.facts, sh.data⟩ ?_ ?_
                rotate_left
                · intro w' hh
                  clear hh; go_simp
                  try with_reducible rfl
                (try simp only [Act.put, List.setIfInBounds_toArray, List.set_cons_zero, List.set_cons_succ])
                refine Hp.take (i := 28) (oi := ⟨some 109, Op.move (Operand.tmp 108), _, _, _, none⟩) (v := ?_) rfl (by kernel_rfl) (by kernel_rfl) (by kernel_rfl) (fun _ _ _ h => h) (by rfl) ⟨sh.facts, sh.data⟩ ?_ ?_
                rotate_left
                · intro w' hh
                  clear hh; go_simp
                  try with_reducible rfl
                (try simp only [Act.put, List.setIfInBounds_toArray, List.set_cons_zero, List.set_cons_succ])
                refine Hp.take (i := 29) (oi := ⟨some 110, Op.move (Operand.tmp 16), _, _, _, some (28, true)⟩) (v := ?_) rfl (by kernel_rfl) (by kernel_rfl) (by kernel_rfl) (fun _ _ _ h => h) (by rfl) ⟨sh.facts, sh.data⟩ ?_ ?_
                rotate_left
                · intro w' hh
                  clear hh; go_simp
                  try with_reducible rfl
                (try simp only [Act.put, List.setIfInBounds_toArray, List.set_cons_zero, List.set_cons_succ])
                refine Hp.take (i := 30) (oi := ⟨some 111, Op.binOp BinOp.eql 31 (Operand.tmp 110) (Operand.const (Value.int IntKind.i64 0)) 31, _, _, _, some (28, true)⟩) (v := ?_) rfl (by kernel_rfl) (by kernel_rfl) (by kernel_rfl) (fun _ _ _ h => h) (by rfl) ⟨sh.facts, sh.data⟩ ?_ ?_
                rotate_left
                · intro w' hh
                  clear hh; go_simp
                  try with_reducible rfl
                (try simp only [Act.put, List.setIfInBounds_toArray, List.set_cons_zero, List.set_cons_succ])
                refine Hp.take (i := 31) (oi := ⟨some 112, Op.pick (Operand.tmp 109) (Operand.tmp 111) (Operand.const (Value.bool false)), _, _, _, none⟩) (v := ?_) rfl (by kernel_rfl) (by kernel_rfl) (by kernel_rfl) (fun _ _ _ h => h) (by rfl) ⟨sh.facts, sh.data⟩ ?_ ?_
                rotate_left
                · intro w' hh
                  clear hh; go_simp
                  try with_reducible rfl
                (try simp only [Act.put, List.setIfInBounds_toArray, List.set_cons_zero, List.set_cons_succ])
                refine Hp.take (i := 32) (oi := ⟨some 113, Op.move (Operand.tmp 112), _, _, _, none⟩) (v := ?_) rfl (by kernel_rfl) (by kernel_rfl) (by kernel_rfl) (fun _ _ _ h => h) (by rfl) ⟨sh.facts, sh.data⟩ ?_ ?_
                rotate_left
                · intro w' hh
                  clear hh; go_simp
                  try with_reducible rfl
                (try simp only [Act.put, List.setIfInBounds_toArray, List.set_cons_zero, List.set_cons_succ])
                refine Hp.take (i := 33) (oi := ⟨some 114, Op.fieldAddr 27 (Operand.tmp 15) 0, _, _, _, some (32, true)⟩) (v := ?_) rfl (by kernel_rfl) (by kernel_rfl) (by kernel_rfl) (fun _ _ _ h => h) (by rfl) ⟨sh.facts, sh.data⟩ ?_ ?_
                rotate_left
                · intro w' hh
                  clear hh; go_simp
                  try with_reducible rfl
                (try simp only [Act.put, List.setIfInBounds_toArray, List.set_cons_zero, List.set_cons_succ])
                refine Hp.take (i := 34) (oi := ⟨some 115, Op.load 25 (Operand.tmp 114), _, _, _, some (32, true)⟩) (v := ?_) rfl (by kernel_rfl) (by kernel_rfl) (by kernel_rfl) (fun _ _ _ h => h) (by rfl) ⟨sh.facts, sh.data⟩ ?_ ?_
                rotate_left
                · intro w' hh
                  have F' := hh.1; have hd := hh.2; clear hh; (try simp only [Hp.Facts, Hp.CellsAt, Nat.reduceAdd, List.cons_append, List.nil_append] at F'); have hcx := CX.out w' hd.2.2.1; have hcy := CY.out w' hd.2.1
                  go_simp
                  try with_reducible rfl
                (try simp only [Act.put, List.setIfInBounds_toArray, List.set_cons_zero, List.set_cons_succ])
                refine Hp.take (i := 35) (oi := ⟨some 116, Op.call { callee := Callee.builtin Builtin.len, args := #[Operand.tmp 115], argTypes := #[25] }, _, _, _, some (32, true)⟩) (v := ?_) rfl (by kernel_rfl) (by kernel_rfl) (by kernel_rfl) (fun _ _ _ h => h) (by rfl) ⟨sh.facts, sh.data⟩ ?_ ?_
                rotate_left
                · intro w' hh
                  clear hh; go_simp
                  try with_reducible rfl
                (try simp only [Act.put, List.setIfInBounds_toArray, List.set_cons_zero, List.set_cons_succ])
                refine Hp.take (i := 36) (oi := ⟨some 117, Op.move (Operand.tmp 9), _, _, _, some (32, true)⟩) (v := ?_) rfl (by kernel_rfl) (by kernel_rfl) (by kernel_rfl) (fun _ _ _ h => h) (by rfl) ⟨sh.facts, sh.data⟩ ?_ ?_
                rotate_left
                · intro w' hh
                  clear hh; go_simp
                  try with_reducible rfl
                (try simp only [Act.put, List.setIfInBounds_toArray, List.set_cons_zero, List.set_cons_succ])
                refine Hp.take (i := 37) (oi := ⟨some 118, Op.binOp BinOp.eql 3 (Operand.tmp 116) (Operand.tmp 117) 3, _, _, _, some (32, true)⟩) (v := ?_) rfl (by kernel_rfl) (by kernel_rfl) (by kernel_rfl) (fun _ _ _ h => h) (by rfl) ⟨sh.facts, sh.data⟩ ?_ ?_
                rotate_left
                · intro w' hh
                  clear hh; go_simp
                  try with_reducible rfl
                (try simp only [Act.put, List.setIfInBounds_toArray, List.set_cons_zero, List.set_cons_succ])
                refine Hp.take (i := 38) (oi := ⟨some 119, Op.pick (Operand.tmp 113) (Operand.tmp 118) (Operand.const (Value.bool false)), _, _, _, none⟩) (v := ?_) rfl (by kernel_rfl) (by kernel_rfl) (by kernel_rfl) (fun _ _ _ h => h) (by rfl) ⟨sh.facts, sh.data⟩ ?_ ?_
                rotate_left
                · intro w' hh
                  clear hh; go_simp
                  try with_reducible rfl
                (try simp only [Act.put, List.setIfInBounds_toArray, List.set_cons_zero, List.set_cons_succ])
                refine Hp.take (i := 39) (oi := ⟨some 120, Op.move (Operand.tmp 119), _, _, _, none⟩) (v := ?_) rfl (by kernel_rfl) (by kernel_rfl) (by kernel_rfl) (fun _ _ _ h => h) (by rfl) ⟨sh.facts, sh.data⟩ ?_ ?_
                rotate_left
                · intro w' hh
                  clear hh; go_simp
                  try with_reducible rfl
                (try simp only [Act.put, List.setIfInBounds_toArray, List.set_cons_zero, List.set_cons_succ])
                refine Hp.take (i := 40) (oi := ⟨some 121, Op.load 23 (Operand.tmp 4), _, _, _, some (39, true)⟩) (v := ?_) rfl (by kernel_rfl) (by kernel_rfl) (by kernel_rfl) (fun _ _ _ h => h) (by rfl) ⟨sh.facts, sh.data⟩ ?_ ?_
                rotate_left
                · intro w' hh
                  have F' := hh.1; have hd := hh.2; clear hh; (try simp only [Hp.Facts, Hp.CellsAt, Nat.reduceAdd, List.cons_append, List.nil_append] at F'); have hcx := CX.out w' hd.2.2.1; have hcy := CY.out w' hd.2.1
                  go_simp
                  try with_reducible rfl
                (try simp only [Act.put, List.setIfInBounds_toArray, List.set_cons_zero, List.set_cons_succ])
                refine Hp.take (i := 41) (oi := ⟨some 122, Op.load 27 (Operand.tmp 15), _, _, _, some (39, true)⟩) (v := ?_) rfl (by kernel_rfl) (by kernel_rfl) (by kernel_rfl) (fun _ _ _ h => h) (by rfl) ⟨sh.facts, sh.data⟩ ?_ ?_
                rotate_left
                · intro w' hh
                  have F' := hh.1; have hd := hh.2; clear hh; (try simp only [Hp.Facts, Hp.CellsAt, Nat.reduceAdd, List.cons_append, List.nil_append] at F'); have hcx := CX.out w' hd.2.2.1; have hcy := CY.out w' hd.2.1
                  go_simp
                  try with_reducible rfl
                (try simp only [Act.put, List.setIfInBounds_toArray, List.set_cons_zero, List.set_cons_succ])
                refine Hp.take (i := 43) (oi := ⟨some 124, Op.load 23 (Operand.tmp 4), _, _, _, some (39, true)⟩) (v := ?_) rfl (by kernel_rfl) (by kernel_rfl) (by kernel_rfl) (fun _ _ _ h => h) (by rfl) ⟨sh.facts, sh.data⟩ ?_ ?_
                rotate_left
                · intro w' hh
                  have F' := hh.1; have hd := hh.2; clear hh; (try simp only [Hp.Facts, Hp.CellsAt, Nat.reduceAdd, List.cons_append, List.nil_append] at F'); have hcx := CX.out w' hd.2.2.1; have hcy := CY.out w' hd.2.1
                  go_simp
                  try with_reducible rfl
                (try simp only [Act.put, List.setIfInBounds_toArray, List.set_cons_zero, List.set_cons_succ])
                refine Hp.take (i := 44) (oi := ⟨some 125, Op.load 27 (Operand.tmp 5), _, _, _, some (39, true)⟩) (v := ?_) rfl (by kernel_rfl) (by kernel_rfl) (by kernel_rfl) (fun _ _ _ h => h) (by rfl) ⟨sh.facts, sh.data⟩ ?_ ?_
                rotate_left
                · intro w' hh
                  have F' := hh.1; have hd := hh.2; clear hh; (try simp only [Hp.Facts, Hp.CellsAt, Nat.reduceAdd, List.cons_append, List.nil_append] at F'); have hcx := CX.out w' hd.2.2.1; have hcy := CY.out w' hd.2.1
                  go_simp
                  try with_reducible rfl
                (try simp only [Act.put, List.setIfInBounds_toArray, List.set_cons_zero, List.set_cons_succ])
                refine Hp.branch [42] (by kernel_rfl) (by simp) ?_
                refine Hp.Each.cons ?_ ?_
                · refine Hp.op_step (o := ⟨some 123, Op.call { callee := Callee.value (Operand.func 11), args := #[Operand.tmp 121, Operand.tmp 122], argTypes := #[23, 27] }, _, _, _, some (39, true)⟩) rfl (by rfl) (fun K hK => ?_)
                  go_simp
                  go_fit (R1.out _ sh.data.1.2); rintro e w1 ⟨rfl, hb⟩; replace sh := sh.call hb; clear hb F; have F := sh.facts; go_simp
                  refine hK _ _ ⟨sh.facts, sh.data⟩ ?_; clear hK K; (try simp only [Act.put, List.setIfInBounds_toArray, List.set_cons_zero, List.set_cons_succ])
                  refine Hp.branch [45] (by kernel_rfl) (by simp) ?_
                  refine Hp.Each.cons ?_ ?_
                  · refine Hp.op_step (o := ⟨some 126, Op.call { callee := Callee.value (Operand.func 11), args := #[Operand.tmp 124, Operand.tmp 125], argTypes := #[23, 27] }, _, _, _, some (39, true)⟩) rfl (by rfl) (fun K hK => ?_)
                    go_simp
                    go_fit (R2.out _ sh.data.2.2.2.1); rintro e w1 ⟨rfl, hb⟩; replace sh := sh.call hb; clear hb F; have F := sh.facts; go_simp
                    refine hK _ _ ⟨sh.facts, sh.data⟩ ?_; clear hK K; (try simp only [Act.put, List.setIfInBounds_toArray, List.set_cons_zero, List.set_cons_succ])
                    refine Hp.take (i := 46) (oi := ⟨some 127, Op.binOp BinOp.eql 3 (Operand.tmp 123) (Operand.tmp 126) 3, _, _, _, some (39, true)⟩) (v := ?_) rfl (by kernel_rfl) (by kernel_rfl) (by kernel_rfl) (fun _ _ _ h => h) (by rfl) ⟨sh.facts, sh.data⟩ ?_ ?_
                    rotate_left
                    · intro w' hh
                      clear hh; go_simp
                      try with_reducible rfl
                    (try simp only [Act.put, List.setIfInBounds_toArray, List.set_cons_zero, List.set_cons_succ])
                    refine Hp.take (i := 47) (oi := ⟨some 128, Op.pick (Operand.tmp 120) (Operand.tmp 127) (Operand.const (Value.bool false)), _, _, _, none⟩) (v := ?_) rfl (by kernel_rfl) (by kernel_rfl) (by kernel_rfl) (fun _ _ _ h => h) (by rfl) ⟨sh.facts, sh.data⟩ ?_ ?_
                    rotate_left
                    · intro w' hh
                      clear hh; go_simp
                      try with_reducible rfl
                    (try simp only [Act.put, List.setIfInBounds_toArray, List.set_cons_zero, List.set_cons_succ])
                    refine Hp.take (i := 48) (oi := ⟨some 8, Op.assign (Operand.tmp 128), _, _, _, none⟩) (v := ?_) rfl (by kernel_rfl) (by kernel_rfl) (by kernel_rfl) (fun _ _ _ h => h) (by rfl) ⟨sh.facts, sh.data⟩ ?_ ?_
                    rotate_left
                    · intro w' hh
                      clear hh; go_simp
                      try with_reducible rfl
                    (try simp only [Act.put, List.setIfInBounds_toArray, List.set_cons_zero, List.set_cons_succ])
                    refine wpAnyH_done (by kernel_rfl) ?_ _
                    go_wp2; go_ret; exact ⟨by simp, sh.below⟩
                  exact Hp.Each.nil
                exact Hp.Each.nil
              exact Hp.Each.nil
            exact Hp.Each.nil
          exact Hp.Each.nil
        exact Hp.Each.nil
      · clear hh1 hh2
        go_wp2_with (first
            | ((with_reducible refine Hp.wpl_box sh ?_ ?_); exact rfl; clear sh; (try clear F); go_simp; intro b w1 sh; have F := sh.facts; (try simp only [Hp.Facts, Hp.CellsAt, Nat.reduceAdd, List.cons_append, List.nil_append] at F))
            | ((with_reducible refine Hp.wpl_alloc Try.z_line sh ?_ ?_); exact rfl; clear sh; (try clear F); go_simp; intro b w1 sh; have F := sh.facts; (try simp only [Hp.Facts, Hp.CellsAt, Nat.reduceAdd, List.cons_append, List.nil_append] at F))
            | ((with_reducible refine Hp.wpl_alloc Try.z_chan sh ?_ ?_); exact rfl; clear sh; (try clear F); go_simp; intro b w1 sh; have F := sh.facts; (try simp only [Hp.Facts, Hp.CellsAt, Nat.reduceAdd, List.cons_append, List.nil_append] at F))
            | ((with_reducible refine Hp.atl_store ?_ ?_); exact rfl; (first | refine Hp.wp_store 0 sh rfl rfl rfl rfl (by kernel_rfl) (Nat.le_of_ble_eq_true rfl) rfl ?_ | refine Hp.wp_store 1 sh rfl rfl rfl rfl (by kernel_rfl) (Nat.le_of_ble_eq_true rfl) rfl ?_ | refine Hp.wp_store 2 sh rfl rfl rfl rfl (by kernel_rfl) (Nat.le_of_ble_eq_true rfl) rfl ?_ | refine Hp.wp_store 3 sh rfl rfl rfl rfl (by kernel_rfl) (Nat.le_of_ble_eq_true rfl) rfl ?_ | refine Hp.wp_store 4 sh rfl rfl rfl rfl (by kernel_rfl) (Nat.le_of_ble_eq_true rfl) rfl ?_ | refine Hp.wp_store 5 sh rfl rfl rfl rfl (by kernel_rfl) (Nat.le_of_ble_eq_true rfl) rfl ?_ | refine Hp.wp_store 6 sh rfl rfl rfl rfl (by kernel_rfl) (Nat.le_of_ble_eq_true rfl) rfl ?_); clear sh; (try clear F); go_simp; intro w1 sh; have F := sh.facts; (try simp only [Hp.Facts, Hp.CellsAt, Nat.reduceAdd, List.cons_append, List.nil_append] at F))
            | fail)
        go_fit (qlined _)
        rintro e w1 ⟨rfl, hb⟩
        replace sh := sh.call hb; clear hb F
        have F := sh.facts; (try simp only [Hp.Facts, Hp.CellsAt, Nat.reduceAdd, List.cons_append, List.nil_append] at F)
        go_wp2_with (first
            | ((with_reducible refine Hp.wpl_box sh ?_ ?_); exact rfl; clear sh; (try clear F); go_simp; intro b w1 sh; have F := sh.facts; (try simp only [Hp.Facts, Hp.CellsAt, Nat.reduceAdd, List.cons_append, List.nil_append] at F))
            | ((with_reducible refine Hp.wpl_alloc Try.z_line sh ?_ ?_); exact rfl; clear sh; (try clear F); go_simp; intro b w1 sh; have F := sh.facts; (try simp only [Hp.Facts, Hp.CellsAt, Nat.reduceAdd, List.cons_append, List.nil_append] at F))
            | ((with_reducible refine Hp.wpl_alloc Try.z_chan sh ?_ ?_); exact rfl; clear sh; (try clear F); go_simp; intro b w1 sh; have F := sh.facts; (try simp only [Hp.Facts, Hp.CellsAt, Nat.reduceAdd, List.cons_append, List.nil_append] at F))
            | ((with_reducible refine Hp.atl_store ?_ ?_); exact rfl; (first | refine Hp.wp_store 0 sh rfl rfl rfl rfl (by kernel_rfl) (Nat.le_of_ble_eq_true rfl) rfl ?_ | refine Hp.wp_store 1 sh rfl rfl rfl rfl (by kernel_rfl) (Nat.le_of_ble_eq_true rfl) rfl ?_ | refine Hp.wp_store 2 sh rfl rfl rfl rfl (by kernel_rfl) (Nat.le_of_ble_eq_true rfl) rfl ?_ | refine Hp.wp_store 3 sh rfl rfl rfl rfl (by kernel_rfl) (Nat.le_of_ble_eq_true rfl) rfl ?_ | refine Hp.wp_store 4 sh rfl rfl rfl rfl (by kernel_rfl) (Nat.le_of_ble_eq_true rfl) rfl ?_ | refine Hp.wp_store 5 sh rfl rfl rfl rfl (by kernel_rfl) (Nat.le_of_ble_eq_true rfl) rfl ?_ | refine Hp.wp_store 6 sh rfl rfl rfl rfl (by kernel_rfl) (Nat.le_of_ble_eq_true rfl) rfl ?_); clear sh; (try clear F); go_simp; intro w1 sh; have F := sh.facts; (try simp only [Hp.Facts, Hp.CellsAt, Nat.reduceAdd, List.cons_append, List.nil_append] at F))
            | fail)
        go_ret
        exact ⟨rfl, sh.below⟩
    · clear hh1 hh2
      go_wp2_with (first
          | ((with_reducible refine Hp.wpl_box sh ?_ ?_); exact rfl; clear sh; (try clear F); go_simp; intro b w1 sh; have F := sh.facts; (try simp only [Hp.Facts, Hp.CellsAt, Nat.reduceAdd, List.cons_append, List.nil_append] at F))
          | ((with_reducible refine Hp.wpl_alloc Try.z_line sh ?_ ?_); exact rfl; clear sh; (try clear F); go_simp; intro b w1 sh; have F := sh.facts; (try simp only [Hp.Facts, Hp.CellsAt, Nat.reduceAdd, List.cons_append, List.nil_append] at F))
          | ((with_reducible refine Hp.wpl_alloc Try.z_chan sh ?_ ?_); exact rfl; clear sh; (try clear F); go_simp; intro b w1 sh; have F := sh.facts; (try simp only [Hp.Facts, Hp.CellsAt, Nat.reduceAdd, List.cons_append, List.nil_append] at F))
          | ((with_reducible refine Hp.atl_store ?_ ?_); exact rfl; (first | refine Hp.wp_store 0 sh rfl rfl rfl rfl (by kernel_rfl) (Nat.le_of_ble_eq_true rfl) rfl ?_ | refine Hp.wp_store 1 sh rfl rfl rfl rfl (by kernel_rfl) (Nat.le_of_ble_eq_true rfl) rfl ?_ | refine Hp.wp_store 2 sh rfl rfl rfl rfl (by kernel_rfl) (Nat.le_of_ble_eq_true rfl) rfl ?_ | refine Hp.wp_store 3 sh rfl rfl rfl rfl (by kernel_rfl) (Nat.le_of_ble_eq_true rfl) rfl ?_ | refine Hp.wp_store 4 sh rfl rfl rfl rfl (by kernel_rfl) (Nat.le_of_ble_eq_true rfl) rfl ?_ | refine Hp.wp_store 5 sh rfl rfl rfl rfl (by kernel_rfl) (Nat.le_of_ble_eq_true rfl) rfl ?_ | refine Hp.wp_store 6 sh rfl rfl rfl rfl (by kernel_rfl) (Nat.le_of_ble_eq_true rfl) rfl ?_); clear sh; (try clear F); go_simp; intro w1 sh; have F := sh.facts; (try simp only [Hp.Facts, Hp.CellsAt, Nat.reduceAdd, List.cons_append, List.nil_append] at F))
          | fail)
      go_fit (qlined _)
      rintro e w1 ⟨rfl, hb⟩
      replace sh := sh.call hb; clear hb F
      have F := sh.facts; (try simp only [Hp.Facts, Hp.CellsAt, Nat.reduceAdd, List.cons_append, List.nil_append] at F)
      go_wp2_with (first
          | ((with_reducible refine Hp.wpl_box sh ?_ ?_); exact rfl; clear sh; (try clear F); go_simp; intro b w1 sh; have F := sh.facts; (try simp only [Hp.Facts, Hp.CellsAt, Nat.reduceAdd, List.cons_append, List.nil_append] at F))
          | ((with_reducible refine Hp.wpl_alloc Try.z_line sh ?_ ?_); exact rfl; clear sh; (try clear F); go_simp; intro b w1 sh; have F := sh.facts; (try simp only [Hp.Facts, Hp.CellsAt, Nat.reduceAdd, List.cons_append, List.nil_append] at F))
          | ((with_reducible refine Hp.wpl_alloc Try.z_chan sh ?_ ?_); exact rfl; clear sh; (try clear F); go_simp; intro b w1 sh; have F := sh.facts; (try simp only [Hp.Facts, Hp.CellsAt, Nat.reduceAdd, List.cons_append, List.nil_append] at F))
          | ((with_reducible refine Hp.atl_store ?_ ?_); exact rfl; (first | refine Hp.wp_store 0 sh rfl rfl rfl rfl (by kernel_rfl) (Nat.le_of_ble_eq_true rfl) rfl ?_ | refine Hp.wp_store 1 sh rfl rfl rfl rfl (by kernel_rfl) (Nat.le_of_ble_eq_true rfl) rfl ?_ | refine Hp.wp_store 2 sh rfl rfl rfl rfl (by kernel_rfl) (Nat.le_of_ble_eq_true rfl) rfl ?_ | refine Hp.wp_store 3 sh rfl rfl rfl rfl (by kernel_rfl) (Nat.le_of_ble_eq_true rfl) rfl ?_ | refine Hp.wp_store 4 sh rfl rfl rfl rfl (by kernel_rfl) (Nat.le_of_ble_eq_true rfl) rfl ?_ | refine Hp.wp_store 5 sh rfl rfl rfl rfl (by kernel_rfl) (Nat.le_of_ble_eq_true rfl) rfl ?_ | refine Hp.wp_store 6 sh rfl rfl rfl rfl (by kernel_rfl) (Nat.le_of_ble_eq_true rfl) rfl ?_); clear sh; (try clear F); go_simp; intro w1 sh; have F := sh.facts; (try simp only [Hp.Facts, Hp.CellsAt, Nat.reduceAdd, List.cons_append, List.nil_append] at F))
          | fail)
      go_ret
      exact ⟨rfl, sh.below⟩

end Go.Proofs.Ytddfonekfopchaa
