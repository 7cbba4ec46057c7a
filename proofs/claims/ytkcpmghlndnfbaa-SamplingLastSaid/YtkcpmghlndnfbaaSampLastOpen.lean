/-
  The arguments of SamplingLast, opened.
-/
import Derived.Test.YtkcpmghlndnfbaaSampOpen
import Derived.Test.YtkcpmghlndnfbaaSampLast
namespace Go.Proofs.Ytkcpmghlndnfbaa
open Go.ChangeShapes Go.WideShapes Go.RowKit Go.Deep
set_option linter.unusedVariables false

theorem open_writes {H : Type} {enc : TypeId × Value → H} {w : World} {spare : Nat → Bool} {held : Bool} {r : Reach} {b0 base : Nat} {v : Value} {d : DataW H} {p : List MemPlace} (hv : Value.okWide Try.prog w r b0 24 v) (h : DataW.Trod enc Try.prog w base spare held 24 v d p) :
    ∃ a : Option Addr × Nat × Nat × (Nat → Int) × (Nat → Option Addr × List Int × Nat), v = .slice a.1 a.2.1 a.2.2.1 ∧ SampP.RowAt w a.1 a.2.1 a.2.2.2.1 a.2.2.2.2 ∧ ∀ i, -9223372036854775808 ≤ a.2.2.2.1 i ∧ a.2.2.2.1 i ≤ 9223372036854775807 := by
  obtain ⟨s, len, cap, rfl, hl, hm, hn, hc⟩ := open_rowsv Try.underlying24 Try.underlying29 (by kernel_rfl) (by kernel_rfl) hv h
  by_cases h0 : 0 < len
  · obtain ⟨q, rfl, hq⟩ := hc h0
    have key : ∀ i, ∃ u : Int × Option Addr × List Int × Nat, (-9223372036854775808 ≤ u.1 ∧ u.1 ≤ 9223372036854775807) ∧ (i < len → w.cell? (q.add (i * 2)) = some (.int .i64 u.1) ∧ w.cell? ⟨(q.add (i * 2)).block, (q.add (i * 2)).off + 1, none⟩ = some (.slice u.2.1 u.2.2.1.length u.2.2.2) ∧ Rd w .u32 u.2.1 u.2.2.1) := by
      intro i
      by_cases hi : i < len
      · obtain ⟨x0, y0, n0, h0, t0⟩ := hq i hi 0 _ rfl
        obtain ⟨x1, y1, n1, h1, t1⟩ := hq i hi 1 _ rfl
        obtain ⟨m0, e0, _, w0⟩ := DataW.trod_int Try.underlying3 t0
        obtain ⟨s1, zs, c1, rfl, hr, _⟩ := open_rd Try.underlying25 Try.underlying40 (by kernel_rfl) t1
        simp only [List.cons.injEq, and_true] at e0
        subst e0
        exact ⟨(m0, s1, zs, c1), wf_i64 w0, fun _ => ⟨h0, h1, hr⟩⟩
      · exact ⟨(0, none, [], 0), by decide, fun h => absurd h hi⟩
    exact ⟨(some q, len, cap, fun i => ((key i).choose).1, fun i => ((key i).choose).2), rfl, fun _ => ⟨q, rfl, fun i hi => (key i).choose_spec.2 hi⟩, fun i => (key i).choose_spec.1⟩
  · exact ⟨(s, len, cap, fun _ => 0, fun _ => (none, [], 0)), rfl, fun h => absurd h h0, fun _ => by show -9223372036854775808 ≤ (0 : Int) ∧ (0 : Int) ≤ 9223372036854775807; decide⟩

theorem samplingLast_walk' (c : Int × Int × Int × Int × Int) (a : Option Addr × Nat × Nat × (Nat → Int) × (Nat → Option Addr × List Int × Nat)) (tk : Int) (w : World) (hc : -9223372036854775808 ≤ c.2.2.2.1 ∧ c.2.2.2.1 ≤ 9223372036854775807)
    (ha : SampP.RowAt w a.1 a.2.1 a.2.2.2.1 a.2.2.2.2 ∧ ∀ i, -9223372036854775808 ≤ a.2.2.2.1 i ∧ a.2.2.2.1 i ≤ 9223372036854775807) (htk : -9223372036854775808 ≤ tk ∧ tk ≤ 9223372036854775807) :
    Calls Try.prog 3 #[.agg #[.int .i64 c.1, .int .i64 c.2.1, .int .i64 c.2.2.1, .int .i64 c.2.2.2.1, .int .i64 c.2.2.2.2], .slice a.1 a.2.1 a.2.2.1, .int .i64 tk] w
      fun e w' => e = .returned (.bool true) ∧ Below w.heap.size w w' :=
  samplingLast_walk _ _ _ _ _ _ _ _ _ _ _ w hc ha.1 ha.2 htk

end Go.Proofs.Ytkcpmghlndnfbaa
