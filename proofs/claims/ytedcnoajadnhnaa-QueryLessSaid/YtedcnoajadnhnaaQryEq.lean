/-
  Two events, held against one another: equal or not.
-/
import Derived.Test.YtedcnoajadnhnaaQry1
namespace Go.Proofs.Ytedcnoajadnhnaa
open Go.RowKit
set_option linter.unusedVariables false
set_option linter.unusedSimpArgs false
set_option maxRecDepth 100000 in
theorem ev_eq (s t p k a b s' t' p' k' a' b' : Int) (W : World) : (Op.equalIn 10000 26 (.agg #[.int .u64 s, .int .i64 t, .int .i64 p, .int .i64 k, .int .i64 a, .int .i64 b]) (.agg #[.int .u64 s', .int .i64 t', .int .i64 p', .int .i64 k', .int .i64 a', .int .i64 b'])).run Try.prog W = .ok (decide (((s, t, p, k, a, b) : EvP.Ev) = (s', t', p', k', a', b'))) W := by
  go_simp
  by_cases h1 : s = s' <;> by_cases h2 : t = t' <;> by_cases h3 : p = p' <;> by_cases h4 : k = k' <;> by_cases h5 : a = a' <;> by_cases h6 : b = b' <;> simp [h1, h2, h3, h4, h5, h6]
theorem exec_eql_ev {ev : Operand → Value} {dst : Option Tmp} {ty T2 : TypeId} {pos : String} {af : Array Edge} {g : Option (Nat × Bool)} {A B : Operand} {s t p k a b s' t' p' k' a' b' : Int} (hx : ev A = .agg #[.int .u64 s, .int .i64 t, .int .i64 p, .int .i64 k, .int .i64 a, .int .i64 b]) (hy : ev B = .agg #[.int .u64 s', .int .i64 t', .int .i64 p', .int .i64 k', .int .i64 a', .int .i64 b']) (W : World) :
    (execOp ev ⟨dst, .binOp .eql 26 A B T2, ty, pos, af, g⟩).run Try.prog W = .ok (.value (.bool (decide (((s, t, p, k, a, b) : EvP.Ev) = (s', t', p', k', a', b'))))) W := by
  have h := ev_eq s t p k a b s' t' p' k' a' b'
  simp only [execOp, hx, hy]
  go_simp
end Go.Proofs.Ytedcnoajadnhnaa
