
/-
  Bytes that a call gathers in a slice of its own: one more is appended, and the whole is turned into a text.
-/
import Derived.Test.YtfcffglgkblidaaDoorBase
namespace Go.Proofs.YtfcffglgkblidaaDoor
open Go.RowKit
set_option linter.unusedVariables false

/-- Bytes as a text, and as cells. -/
def bstr (l : List UInt8) : ByteArray := ⟨l.toArray⟩
def bcells (l : List UInt8) : List Value := l.map fun c => .int .u8 (c.toNat : Int)
theorem bstr_size (l : List UInt8) : (bstr l).size = l.length := by simp [bstr, ByteArray.size]
theorem bstr_data (l : List UInt8) : (bstr l).data.toList = l := rfl
theorem bstr_of (b : ByteArray) : bstr b.data.toList = b := rfl
theorem bstr_toList (l : List UInt8) : (bstr l).toList = l := by rw [ByteArray.toList_eq]; rfl
theorem bstr_ne {a b : List UInt8} (h : a ≠ b) : ((bstr a).toList == (bstr b).toList) = false := by
  rw [bstr_toList, bstr_toList, beq_eq_false_iff_ne]; exact h
theorem bytes_eq {a b : ByteArray} (h : a.data.toList = b.data.toList) : a = b := by rw [← bstr_of a, h, bstr_of]
theorem bstr_append (a b : List UInt8) : bstr a ++ bstr b = bstr (a ++ b) := by
  apply ByteArray.ext; simp [bstr]
theorem bstr_inj {a b : List UInt8} (h : bstr a = bstr b) : a = b := by
  have := congrArg (fun x : ByteArray => x.data.toList) h
  simpa [bstr] using this
theorem bstr_extract (b : ByteArray) (i j : Nat) : b.extract i j = bstr ((b.data.toList.take j).drop i) := by
  apply ByteArray.ext
  apply Array.ext'
  simp [bstr, ByteArray.data_extract, List.extract_eq_take_drop, List.drop_take]
theorem bcells_length (l : List UInt8) : (bcells l).length = l.length := by simp [bcells]
theorem bcells_snoc (l : List UInt8) (c : UInt8) : bcells (l ++ [c]) = bcells l ++ [.int .u8 (c.toNat : Int)] := by simp [bcells]

theorem ret_u64 {a b : Int} (h : a = b) : Ending.returned (.int .u64 a) = .returned (.int .u64 b) := by rw [h]
theorem ret_i64 {a b : Int} (h : a = b) : Ending.returned (.int .i64 a) = .returned (.int .i64 b) := by rw [h]
theorem ret_str {a b : ByteArray} (h : a = b) : Ending.returned (.string a) = .returned (.string b) := by rw [h]
theorem wrapU64 (x : Int) : IntKind.u64.wrap x = x % 18446744073709551616 := by simp [IntKind.wrap, IntKind.bits, IntKind.signed]

theorem conv_owned {P : Program} {W : World} {base : Nat} {v : Value} {l : List UInt8} {n : Nat} {T S U : TypeId} (hown : W.ownsRow base U 1 v n (bcells l)) (hn : n = l.length)
    (hT : P.underlying T = some (.slice U)) (hU : P.underlying U = some (.int .u8)) (hS : P.underlying S = some .string) :
    (convert T S v).run P W = .ok (.string (bstr l)) W := by
  subst hn
  have hown2 := hown.2
  rcases hown2 with ⟨hv, h0⟩ | ⟨g, cap, cur, hv, hg1, hg2, hg3, hg4, hg5, hg6⟩
  · have : l = [] := List.length_eq_zero_iff.1 h0
    subst this
    rw [hv]
    exact run_convert_bytes_nil W T U hT hU 0 0 S hS
  · rw [hv]
    rw [hv] at hown
    exact run_convert_bytes_back (P := P) W T S U ⟨g, 0, none⟩ cap l hT hU hS (fun j hj => by
      have e1 : (⟨g, 0, none⟩ : Addr).add j = ⟨g, j, none⟩ := by unfold Addr.add; split <;> simp_all
      rw [e1, hown.cellAt j (by omega)]
      simp [bcells, hj])

/-- 'out = append(out, c)' of one byte, out the call's own (or nil): the byte has just been laid in a block of its own. -/
theorem wpList_append_byte {P : Program} {W : World} {ops : Array Oper} {rest : List Oper} {o : Oper} {a : Act} {Q : Exit → Act → World → Prop} (hgd : o.guard = none) (s x : Operand) (T : TypeId)
    (ho : o.op = .call { callee := .builtin .append, args := #[s, x], argTypes := #[T, T] }) (B : Nat) (U : TypeId)
    (hinfo : (P.info? U).map (fun i => (i.zero, i.size, i.bytes)) = some (some (.int .u8 0), 1, 1)) (hT : P.underlying T = some (.slice U))
    (v : Value) (k : Nat) (l : List UInt8) (hs : a.eval s = v) (hown : W.ownsRow B U 1 v k (bcells l)) (c : UInt8) (n : Int) (hn : n = (c.toNat : Int))
    (hx : a.eval x = .slice (some ⟨W.heap.size, 0, none⟩) 1 1) (hB : B ≤ W.heap.size) (hl : k + 1 ≤ 140737488355328)
    (h : ∀ v' w', w'.ownsRow B U 1 v' (k + 1) (bcells (l ++ [c])) → Below B W w' → wpList P ops Q rest (a.put o.dst v') w') :
    wpList P ops Q (o :: rest) a (W.alloc (.cells #[.int .u8 n] U)) := by
  obtain ⟨i0, hi, hz0, hz1, hz2⟩ := info_parts hinfo
  refine wpList_append_own _ hgd s x T ho B U i0 (.int .u8 0) 1 1 hT hi hz0 hz1 hz2 rfl (by decide) v k (bcells l) hs (hown.alloc _) ⟨W.heap.size, 0, none⟩ 1 1 [.int .u8 n] hx rfl
    (World.news_of_block (cs := #[.int .u8 n]) (t := U) (fr := (0, 0)) (heap_alloc_new W _)) (by intro u hu; simp at hu; subst hu; rfl) (by unfold maxLen; omega) (by omega) (by simp; omega) ?_
  intro v' w' hown' hgrow _
  rw [hn, ← bcells_snoc] at hown'
  exact h v' w' hown' (((Below.refl B W).alloc hB _).grown hgrow (by simp; omega) (fun j hj => (hown.lt j hj).1))

/-- 'make([]byte, n)'. -/
theorem wpList_make_bytes {P : Program} {W : World} {ops : Array Oper} {rest : List Oper} {o : Oper} {a : Act} {Q : Exit → Act → World → Prop} (hgd : o.guard = none) (l c : Operand) (T : TypeId)
    (hop : o.op = Op.makeSlice T l c) (B : Nat) (U : TypeId)
    (hinfo : (P.info? U).map (fun i => (i.zero, i.size, i.bytes)) = some (some (.int .u8 0), 1, 1)) (hT : P.underlying T = some (.slice U))
    (n : Nat) (hl : a.eval l = .int .i64 n) (hc : a.eval c = .int .i64 n) (hn : n ≤ 140737488355328) (hB : B ≤ W.heap.size)
    (h : ∀ w', w'.ownsRow B U 1 (.slice (some ⟨W.heap.size, 0, none⟩) n n) n (bcells (List.replicate n 0)) → Below B W w' → wpList P ops Q rest (a.put o.dst (.slice (some ⟨W.heap.size, 0, none⟩) n n)) w') :
    wpList P ops Q (o :: rest) a W := by
  obtain ⟨i0, hi, hz0, hz1, hz2⟩ := info_parts hinfo
  refine wpList_make_full W hgd l c T hop B U i0 (.int .u8 0) 1 hT hi hz0 hz1 .i64 .i64 n n n hl hc rfl rfl (by rw [hz2]; omega) (by unfold maxLen; omega) hB ?_
  intro w' hown hgrow
  have e : (madeCells (Value.int IntKind.u8 0).cells (n * 1)).toList = bcells (List.replicate n 0) := by
    rw [Nat.mul_one]
    exact (toList_madeCells_one _ n).trans (by simp [bcells])
  rw [e] at hown
  exact h w' hown ((Below.refl B W).grown hgrow hB (fun j hj => by cases hj))

/-- 'b[k] = c' in a slice of the call's own. -/
theorem own_set {W : World} {B U n cap g : Nat} {l : List UInt8} (hown : W.ownsRow B U 1 (.slice (some ⟨g, 0, none⟩) n cap) n (bcells l)) (k : Nat) (c : UInt8) (x : Int) (hx : x = (c.toNat : Int)) (hB : B ≤ g) :
    (W.setCell ⟨g, k, none⟩ (.int .u8 x)).ownsRow B U 1 (.slice (some ⟨g, 0, none⟩) n cap) n (bcells (l.set k c)) ∧ Below B W (W.setCell ⟨g, k, none⟩ (.int .u8 x)) := by
  refine ⟨?_, (Below.refl B W).setCell hB _⟩
  have := (hown.stored k (.int .u8 x)).1
  rw [hx] at this ⊢
  have e : bcells (l.set k c) = (bcells l).set k (.int .u8 (c.toNat : Int)) := by simp [bcells, List.map_set]
  rw [e]; exact this
theorem own_cell {W : World} {B U n cap g : Nat} {l : List UInt8} (hown : W.ownsRow B U 1 (.slice (some ⟨g, 0, none⟩) n cap) n (bcells l)) (hn : n = l.length) (k : Nat) (hk : k < l.length) :
    W.cell? ⟨g, k, none⟩ = some (.int .u8 ((l[k]).toNat : Int)) := by
  rw [hown.cellAt k (by omega)]; simp [bcells, hk]

/-- '[]byte(s)'. -/
theorem wpList_bytes_of {P : Program} {W : World} {ops : Array Oper} {rest : List Oper} {o : Oper} {a : Act} {Q : Exit → Act → World → Prop} (hgd : o.guard = none) (x : Operand) (S T U : TypeId)
    (hop : o.op = Op.convert S T x) (hS : P.underlying S = some .string) (hT : P.underlying T = some (.slice U)) (hU : P.underlying U = some (.int .u8))
    (s : ByteArray) (hx : a.eval x = .string s)
    (h : ∀ w' cap, (∀ j (hj : j < s.size), w'.cell? ⟨W.heap.size, j, none⟩ = some (.int .u8 (s[j].toNat : Int))) → (∀ j, j < s.size → w'.frozen? ⟨W.heap.size, j, none⟩ = false) → Below W.heap.size W w' → s.size ≤ cap →
      W.heap.size < w'.heap.size → wpList P ops Q rest (a.put o.dst (.slice (some ⟨W.heap.size, 0, none⟩) s.size cap)) w') :
    wpList P ops Q (o :: rest) a W := by
  refine wpList_plain hgd fun K hK' => ?_
  have hrun := run_bytes_of_string (P := P) W S T U s hS hT hU
  unfold Oper.wp
  simp [execOp, hop, hx, hrun, Result.andThen]
  refine hK' _ _ (h _ _ (fun j hj => ?_) (fun j hj => ?_) ?_ ?_ ?_)
  · rw [show (W.drew.alloc (.cells (bytesRow s (grownCap W s.size 0 U)) U ((bytesRow s (grownCap W s.size 0 U)).size, (bytesRow s (grownCap W s.size 0 U)).size + 1))).cell? ⟨W.heap.size, j, none⟩ = _ from World.cell?_alloc_mark W.drew _ _ _ j]
    exact bytesRow_at s _ j hj
  · rw [show (W.drew.alloc (.cells (bytesRow s (grownCap W s.size 0 U)) U ((bytesRow s (grownCap W s.size 0 U)).size, (bytesRow s (grownCap W s.size 0 U)).size + 1))).frozen? ⟨W.heap.size, j, none⟩ = _ from World.frozen?_alloc_mark W.drew _ _ _ _ j]
    have : s.size ≤ (bytesRow s (grownCap W s.size 0 U)).size := by unfold bytesRow; rw [Array.size_append, Array.size_map]; exact Nat.le_add_right _ _
    simp; omega
  · exact ((Below.refl _ W).drew).alloc (Nat.le_refl _) _
  · exact grownCap_ge _ _ _ _
  · show W.heap.size < (W.heap.push _).size; simp

end Go.Proofs.YtfcffglgkblidaaDoor
