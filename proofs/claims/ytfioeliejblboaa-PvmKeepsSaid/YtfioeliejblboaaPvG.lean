/-
  A whole machine is loaded, under a guard.
-/
import Derived.Test.YtfioeliejblboaaPv1
namespace Go.Proofs.Ytfioeliejblboaa
open Go.RowKit
set_option linter.unusedVariables false
section
variable {w0 w : World} {H : List Hp.Blk} {D : World → Prop} {dst : Option Tmp} {ty : TypeId} {pos : String} {af : Array Edge} {g : Option (Nat × Bool)} {a : Act} {K : Act → World → Prop} {Q : Exit → Act → World → Prop} {x y : Operand} {b : Nat} {t : TypeId} {c : Array Value} {v v2 : PvP.Vm}
theorem PvP.ldg {ops : Array Oper} {rest : List Oper} {T : TypeId} (i : Nat) (hT : T = 28) (sh : Hp.Sh w0 w H D) (hw : Region.wanted ⟨dst, .load T x, ty, pos, af, g⟩ (yielded ops a.tmps) = true) (hx : a.eval x = .pointer (some ⟨b, 0, none⟩)) (hi : H[i]? = some (b, c, t)) (hc : c = PvP.vmA v) (hR : v.2.length = 8)
    (k : wpList Try.prog ops Q rest (a.put dst (.agg (PvP.vmA v))) w) : wpList Try.prog ops Q (⟨dst, .load T x, ty, pos, af, g⟩ :: rest) a w := by
  subst hc hT
  refine Hp.list_of hw ?_
  have h := Hp.exec_load (P := Try.prog) (dst := dst) (ty := ty) (pos := pos) (af := af) (g := g) (ev := a.eval) (x := x) (T := 28) i sh hx hi (by kernel_rfl) (PvP.sz hR)
  unfold Oper.wp
  rw [h]
  exact k
end
end Go.Proofs.Ytfioeliejblboaa
