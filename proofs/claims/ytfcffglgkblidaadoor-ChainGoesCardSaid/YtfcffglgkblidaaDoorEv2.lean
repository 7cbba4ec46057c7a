
/-
  append(b, s...) of a text onto the walk's own bytes; the reference's Name; the bytes of an event.
-/
import Derived.Lib.AppendStr
import Derived.Test.YtfcffglgkblidaaDoorEv1
namespace Go.Proofs.YtfcffglgkblidaaDoor
open Go.RowKit
set_option linter.unusedVariables false
set_option linter.unusedSimpArgs false

theorem strCells_bstr (x : List UInt8) : Lib.strCells (bstr x) = bcells x := rfl
theorem bcells_append (a b : List UInt8) : bcells a ++ bcells b = bcells (a ++ b) := by simp [bcells]

namespace Hp
section
variable {P : Program} {w0 w : World} {H : List Blk} {D : World → Prop} {dst : Option Tmp} {ty : TypeId} {pos : String} {af : Array Edge} {g : Option (Nat × Bool)} {a : Act} {K : Act → World → Prop} {Q : Exit → Act → World → Prop}
theorem run_append_str {t u e ty' : TypeId} (hinfo : (P.info? e).map (fun i => (i.zero, i.size, i.bytes)) = some (some (.int .u8 0), 1, 1)) (hT : P.underlying t = some (.slice e)) (hu : P.underlying u = some .string)
    {R : List Blk} (sh : Sh w0 w (R ++ H) D) {v : Value} {n : Nat} {xs : List Value} (hr : RowIs e 1 v n xs R) (x : List UInt8) (hpos : 0 < x.length) (hnm : n + x.length ≤ 1099511627776) :
    ∃ v' R' w', (Builtin.append_ #[t, u] ty' #[v, .string (bstr x)]).run P w = .ok v' w' ∧ Sh w0 w' (R' ++ H) D ∧ RowIs e 1 v' (n + x.length) (xs ++ bcells x) R' := by
  obtain ⟨i, hi, hz, hz1, hz2⟩ := info_parts hinfo
  have hs : (bstr x).size = x.length := bstr_size x
  have hlen : (xs ++ bcells x).length = (n + x.length) * 1 := by rw [List.length_append, hr.1, bcells_length]; omega
  have hown := sh.ownsRow hr
  have grown : ∀ old : Nat, RowIs e 1 (.slice (some ⟨w.heap.size, 0, none⟩) (n + x.length) (grownCap w (n + x.length) old e)) (n + x.length) (xs ++ bcells x) [(w.heap.size, xs.toArray ++ (bcells x).toArray ++ Builtin.zeroCells (Value.int IntKind.u8 0).cells (grownCap w (n + x.length) old e - (n + x.length)), e)] := by
    intro old
    have hge := grownCap_ge w (n + x.length) old e
    have hcm : grownCap w (n + x.length) old e ≤ maxLen := grownCap_le_maxLen w (n + x.length) old e (by simp only [maxLen]; omega)
    refine ⟨hlen, .inr ⟨w.heap.size, _, _, rfl, rfl, hge, hcm, ?_, ?_⟩⟩
    · have h2 := hr.1
      simp only [Array.size_append, List.size_toArray, size_zeroCells, bcells_length, h2]
      simp only [Value.cells, List.size_toArray, List.length_cons, List.length_nil]
      omega
    · simp only [Array.toList_append, List.append_assoc]
      rw [← List.append_assoc, ← hlen]
      exact List.take_left
  rcases hr.2 with ⟨rfl, rfl, rfl⟩ | ⟨g, cap, cur, rfl, rfl, hnc, hcm, hcs, htake⟩
  · obtain rfl : xs = [] := List.eq_nil_of_length_eq_zero (by simpa using hr.1)
    have hrun := run_append_nil_string (P := P) w t u ty' e i (.int .u8 0) hT hu hi hz (bstr x) (by rw [hs]; exact hpos) (by rw [hs]; omega) (by rw [hs, hz2]; omega)
    have hgr := grown 0
    simp only [Nat.zero_add, List.nil_append, Array.empty_append] at hgr ⊢
    rw [hs, show (bstr x).data.map (fun b => Value.int .u8 b.toNat) = (bcells x).toArray by simp [bstr, bcells]] at hrun
    exact ⟨_, _, _, hrun, sh.allocD _ _, hgr⟩
  · by_cases hroom : n + x.length ≤ cap
    · have hrun := Lib.run_append_room_string (P := P) w t u ty' e i hT hu hi hz1 g n cap cur (sh.own (g, cur, e) (by simp)) (bstr x) (by rw [hs]; exact hroom) (by rw [hs, hcs]; omega)
      rw [hs, strCells_bstr] at hrun
      refine ⟨_, [(g, _, e)], _, hrun, sh.row 0 g cur _ e rfl, hlen, .inr ⟨g, cap, _, rfl, rfl, hroom, hcm, ?_, ?_⟩⟩
      · simp only [List.size_toArray, List.length_append, List.length_take, List.length_drop, Array.length_toList, bcells_length]
        omega
      · rw [Nat.mul_one] at htake
        rw [htake, ← hlen]
        exact List.take_left
    · have holds : ∀ j u, xs[j]? = some u → w.cell? ((⟨g, 0, none⟩ : Addr).add j) = some u := hown.cells (g := g) rfl
      have hrun := Lib.run_append_grow_string (P := P) w t u ty' e i (.int .u8 0) hT hu hi hz ⟨g, 0, none⟩ n cap xs (by rw [hz1]; exact hr.1) holds (bstr x) (by rw [hs]; omega) (by rw [hs]; omega) (by rw [hs, hz2]; exact growslice_fits (by omega) (by omega))
      rw [hs, strCells_bstr] at hrun
      exact ⟨_, _, _, hrun, sh.dropA.allocD _ _, grown cap⟩
theorem wp_append_str {t u e : TypeId} (hinfo : (P.info? e).map (fun i => (i.zero, i.size, i.bytes)) = some (some (.int .u8 0), 1, 1)) (hT : P.underlying t = some (.slice e)) (hu : P.underlying u = some .string)
    {R : List Blk} (sh : Sh w0 w (R ++ H) D) {v : Value} {n : Nat} {xs : List Value} (hr : RowIs e 1 v n xs R) {s y : Operand} (hs : a.eval s = v) (x : List UInt8) (hy : a.eval y = .string (bstr x)) (hpos : 0 < x.length) (hnm : n + x.length ≤ 1099511627776)
    (k : ∀ v' R' w', Sh w0 w' (R' ++ H) D → RowIs e 1 v' (n + x.length) (xs ++ bcells x) R' → K (a.put dst v') w') :
    Oper.wp P ⟨dst, .call { callee := .builtin .append, args := #[s, y], argTypes := #[t, u] }, ty, pos, af, g⟩ a w K Q := by
  obtain ⟨v', R', w', hrun, h2, h3⟩ := run_append_str (ty' := ty) hinfo hT hu sh hr x hpos hnm
  have := k _ _ _ h2 h3
  simpa [Oper.wp, execOp, resolve, invoke, builtin, hs, hy, hrun, Oper.upon, Result.andThen] using this
theorem conv_rdv {W : World} {s : Option Addr} {l : List UInt8} {n cap : Nat} {T S U : TypeId} (h : RdV W s (bcells l)) (hn : n = l.length) (hT : P.underlying T = some (.slice U)) (hU : P.underlying U = some (.int .u8)) (hS : P.underlying S = some .string) :
    (convert T S (.slice s n cap)).run P W = .ok (.string (bstr l)) W := by
  subst hn
  cases s with
  | none =>
    have : l = [] := by
      cases l with
      | nil => rfl
      | cons c t => obtain ⟨p, hp, -⟩ := h (by simp [bcells]); cases hp
    subst this
    exact run_convert_bytes_nil W T U hT hU 0 cap S hS
  | some p =>
    exact run_convert_bytes_back (P := P) W T S U p cap l hT hU hS (fun j hj => h.cell j (by simp [bcells, hj]))
end
end Hp

/-- Bytes that a variable of the walk's holds. -/
def EvP.AddP (bx : Nat) (l : List UInt8) (w0 : World) (H : List Hp.Blk) (D : World → Prop) (e : Ending) (w' : World) : Prop := ∃ v R, e = .returned (.tuple #[]) ∧ Hp.Sh w0 w' (R ++ (bx, #[v], 51) :: H) D ∧ Hp.RowIs 5 1 v l.length (bcells l) R

set_option maxHeartbeats 4000000 in set_option maxRecDepth 100000 in
theorem eput1 (n : Nat) (hn : n < 18446744073709551616) {w0 w : World} {H R : List Hp.Blk} {D : World → Prop} {v : Value} {l : List UInt8} (bx : Nat) (sh : Hp.Sh w0 w (R ++ (bx, #[v], 51) :: H) D) (hr : Hp.RowIs 5 1 v l.length (bcells l) R) (hl : l.length ≤ 1000) :
    Calls Tryd.prog 58 #[.int .u64 n, .pointer (some ⟨bx, 0, none⟩)] w fun e w' => EvP.AddP bx (l ++ WireP.putL n) w0 H D e w' := by
  have H1 := Lib.hid (fun W => wirePut_any n W hn)
  have HL := Lib.hid (WireP.putL_le10 n hn)
  have HP := Lib.hid (WireP.putL_pos n)
  clear hn
  go_enter Tryd.func58, Tryd.ntmps58
  refine Hp.region_soft (by kernel_rfl) sh (fun _ q => Hp.Sh.drop1 (Hp.Sh.dropA q)) ?_; clear sh; (try clear F)
  (try simp only [Hp.p2, Hp.p3])
  (refine Hp.tks (i := 1) (oi := ⟨some 4, Op.move (Operand.tmp 0), _, _, _, none⟩) (fun _ q => Hp.Sh.drop1 (Hp.Sh.dropA q)) ?_)
  (refine Hp.cl (i := 2) (oi := ⟨some 5, Op.call { callee := Callee.value (Operand.func 36), args := #[Operand.tmp 4], argTypes := #[25] }, _, _, _, none⟩) _ _ _ (fun _ q => Hp.Sh.drop1 (Hp.Sh.dropA q)) (fun W hW => by go_simp) (fun W hW => H1.out W) ?_)
  refine Hp.soft_make (i := 0) (o := ⟨some 3, Op.load 51 (Operand.tmp 1), _, _, _, none⟩) (by kernel_rfl) rfl (by rfl) (fun w1 sh K hK => ?_); (try clear F); (try have F := Hp.Sh.facts sh); (try simp only [Hp.Facts, Hp.CellsAt, Nat.reduceAdd, Hp.c1, Hp.c2] at F); (have F := (Hp.Sh.dropA sh).facts; simp only [Hp.Facts, Hp.CellsAt, Nat.reduceAdd, Hp.c1, Hp.c2] at F; go_simp); refine hK _ _ _ _ _ _ (fun _ q => Hp.Sh.drop1 (Hp.Sh.dropA q)) (fun _ q => q) sh ?_; clear hK K; clear sh; (try clear F); (try simp only [Act.put, Hp.p1, Hp.p2, Hp.p3])
  refine Hp.soft_make (i := 3) (o := ⟨some 6, Op.call { callee := Callee.builtin Builtin.append, args := #[Operand.tmp 3, Operand.tmp 5], argTypes := #[51, 9] }, _, _, _, none⟩) (by kernel_rfl) rfl (by rfl) (fun w1 sh K hK => ?_); (try clear F); (try have F := Hp.Sh.facts sh); (try simp only [Hp.Facts, Hp.CellsAt, Nat.reduceAdd, Hp.c1, Hp.c2] at F); (refine Hp.wp_append_str Tryd.winfo_u8 Tryd.underlying51 Tryd.underlying9 sh hr rfl (WireP.putL n) rfl HP.out (by have := HL.out; omega) ?_; clear sh hr; intro v2 R2 w1 sh hr; rw [bcells_append] at hr; obtain ⟨s2, c2, rfl, -⟩ := hr.slice); refine hK _ _ _ _ _ _ (fun _ q => Hp.Sh.drop1 (Hp.Sh.dropA q)) (fun _ q => q) sh ?_; clear hK K; clear sh; (try clear F); (try simp only [Act.put, Hp.p1, Hp.p2, Hp.p3])
  refine Hp.soft_make (i := 4) (o := ⟨none, Op.store 51 (Operand.tmp 1) (Operand.tmp 6), _, _, _, none⟩) (by kernel_rfl) rfl (by rfl) (fun w1 sh K hK => ?_); (try clear F); (try have F := Hp.Sh.facts sh); (try simp only [Hp.Facts, Hp.CellsAt, Nat.reduceAdd, Hp.c1, Hp.c2] at F); (replace sh := sh.perm (List.perm_middle); refine Hp.wp_store 0 sh rfl rfl rfl rfl (by kernel_rfl) (Nat.le_refl _) rfl ?_; clear sh; go_simp; intro w1 sh; replace sh := sh.perm (List.perm_middle).symm); refine hK _ _ _ _ _ _ (fun _ q => Hp.Sh.drop1 (Hp.Sh.dropA q)) (fun _ q => q) sh ?_; clear hK K; clear sh; (try clear F); (try simp only [Act.put, Hp.p1, Hp.p2, Hp.p3])
  refine Hp.soft_done (by kernel_rfl) (fun w1 sh => ?_) _; (try clear F); (try have F := Hp.Sh.facts sh); (try simp only [Hp.Facts, Hp.CellsAt, Nat.reduceAdd, Hp.c1, Hp.c2] at F)
  go_wp2
  go_end0
  exact ⟨_, _, rfl, sh, by rw [List.length_append]; exact hr⟩

end Go.Proofs.YtfcffglgkblidaaDoor
