
/-
  A region that draws its order, some of whose operations make memory or write it: those that yield one value in all worlds of a class (calls, too) are taken first, each by itself; the class changes where memory is made.
-/
import Derived.Test.YtfcffglgkblidaaDoorHeap2
namespace Go.Proofs.YtfcffglgkblidaaDoor
open Go.RowKit
set_option linter.unusedVariables false

namespace Hp
/-- Classes of worlds that are left by no call that makes memory alone. -/
def Grow (C : World → Prop) : Prop := ∀ w w', C w → Below w.heap.size w w' → C w'
theorem Cls.grow (w0 : World) (H : List Blk) (D : World → Prop) : Grow (Cls w0 H D) := fun _ _ h hb => Sh.call h hb

section
variable {P : Program} {ops : Array Oper} {md : Region.Mode} {Q : Exit → Act → World → Prop}
/-- The operation yields v: at once, or by a call that makes memory alone. -/
def softUpon (P : Program) (w : World) (v : Value) : Result Next → Prop
  | .ok (.value u) w' => w' = w ∧ u = v
  | .ok (.enter f args) w' => w' = w ∧ Calls P f args w (fun e w'' => e = .returned v ∧ Below w.heap.size w w'')
  | _ => False
def SoftIn (P : Program) (ops : Array Oper) (S : World → Prop) (o : Oper) (v : Value) (a : Act) : Prop :=
  (Region.wanted o (yielded ops a.tmps) = true ∧ ∀ w, S w → softUpon P w v ((execOp a.eval o).run P w)) ∨ (Region.wanted o (yielded ops a.tmps) = false ∧ v = undef)
theorem SoftIn.sub {S S' : World → Prop} {o : Oper} {v : Value} {a : Act} (h : SoftIn P ops S o v a) (k : ∀ w, S' w → S w) : SoftIn P ops S' o v a :=
  h.imp (fun q => ⟨q.1, fun w hw => q.2 w (k w hw)⟩) id
theorem SoftIn.same {S : World → Prop} {o : Oper} {v : Value} {a b : Act} (h : SoftIn P ops S o v a) (he : execOp b.eval o = execOp a.eval o) (hw : Region.wanted o (yielded ops b.tmps) = Region.wanted o (yielded ops a.tmps)) : SoftIn P ops S o v b := by
  unfold SoftIn
  rw [he, hw]; exact h
theorem SoftIn.run {S I : World → Prop} (hI : Grow I) {i : Nat} {o : Oper} {v : Value} {a : Act} (hi : ops[i]? = some o) (h : SoftIn P ops S o v a) {K : Act → World → Prop} {w : World} (hS : S w) (hw : I w) (k : ∀ w', I w' → K (a.put o.dst v) w') : wpOp P ops Q i K a w := by
  unfold wpOp
  rw [hi]
  show if Region.wanted o (yielded ops a.tmps) = true then _ else _
  rcases h with ⟨h1, h2⟩ | ⟨h1, rfl⟩
  · rw [if_pos h1]
    refine .inl ?_
    have h3 := h2 w hS
    unfold Oper.wp
    generalize (execOp a.eval o).run P w = r at h3
    cases r with
    | ok n w' =>
      cases n <;> simp only [softUpon] at h3 <;> simp only [Oper.upon]
      case value u => obtain ⟨rfl, rfl⟩ := h3; exact k _ hw
      case enter f args =>
        obtain ⟨rfl, hc⟩ := h3
        exact hc.mono fun e w'' q => by obtain ⟨rfl, hb⟩ := q; exact k _ (hI _ _ hw hb)
    | halt x w' => exact h3.elim
  · rw [if_neg (by rw [h1]; decide)]
    exact k _ hw
/-- Operations that are apart do not see one another's values. -/
theorem soft_put {S : World → Prop} {j : Nat} {oi oj : Oper} {v : Value} (hj : ops[j]? = some oj) (hap : oi.apart ops oj = true) (hsi : ∀ cs b, oi.op ≠ .select cs b) (hsj : ∀ cs b, oj.op ≠ .select cs b)
    (hQ : ∀ c a w, Q (.panic c) (a.put oi.dst v) w → Q (.panic c) a w) {K : Act → World → Prop} {a : Act} {w : World} (hy : SoftIn P ops S oi v a) (h : wpOp P ops Q j K (a.put oi.dst v) w) :
    wpOp P ops Q j (fun b w' => SoftIn P ops S oi v b ∧ K (b.put oi.dst v) w') a w := by
  obtain ⟨p1, p2, p3⟩ := Oper.apart_spec hap
  have stay : ∀ (b : Act), SoftIn P ops S oi v b → ∀ u, SoftIn P ops S oi v (b.put oj.dst u) := fun b q u => q.same (execOp_put oi hsi b oj.dst u p3) (wanted_put oi b oj.dst u p3)
  have turn : ∀ (b : Act) (u : Value), (b.put oi.dst v).put oj.dst u = (b.put oj.dst u).put oi.dst v := fun b u => (Act.put_comm b v u p2)
  unfold wpOp at h ⊢
  rw [hj] at h ⊢
  change (if Region.wanted oj (yielded ops (a.put oi.dst v).tmps) = true then _ else _) at h
  show if Region.wanted oj (yielded ops a.tmps) = true then _ else _
  rw [wanted_put oj a oi.dst v p1] at h
  by_cases hw : Region.wanted oj (yielded ops a.tmps) = true
  · rw [if_pos hw] at h ⊢
    rcases h with h | ⟨q1, q2⟩
    · left
      unfold Oper.wp at h ⊢
      rw [execOp_put oj hsj a oi.dst v p1] at h
      generalize (execOp a.eval oj).run P w = r at h ⊢
      cases r with
      | halt x w' => cases x <;> simp only [Oper.upon] at h ⊢; exact hQ _ _ _ h
      | ok n w' =>
        cases n <;> simp only [Oper.upon] at h ⊢
        case value u => exact ⟨stay a hy u, turn a u ▸ h⟩
        case skip => exact ⟨stay a hy _, turn a undef ▸ h⟩
        case defer d =>
          refine ⟨stay { a with defers := d :: a.defers } (hy.same rfl rfl) _, ?_⟩
          rw [← turn, ← Act.put_defers]
          exact h
        case enter f args =>
          refine Calls.mono h fun e w'' he => ?_
          cases e with
          | returned u => exact ⟨stay a hy u, turn a u ▸ he⟩
          | panicked c => exact hQ _ _ _ he
          | outgrown => exact he
        case row row args => exact Rows.mono h fun u w'' he => ⟨stay a hy u, turn a u ▸ he⟩
    · right
      refine ⟨?_, q2⟩
      unfold Oper.asks at q1 ⊢
      rw [execOp_put oj hsj a oi.dst v p1] at q1
      exact q1
  · rw [if_neg hw] at h ⊢
    exact ⟨stay a hy _, turn a undef ▸ h⟩

/-- Whatever order is picked from here on, from every world of I; what is taken early may lean on S alone. -/
def wpAnyE (P : Program) (md : Region.Mode) (ops : Array Oper) (Q : Exit → Act → World → Prop) : Nat → Array Bool → Act → (World → Prop) → (World → Prop) → Prop
  | 0, listed, a, _, I => Region.ready md ops listed = [] ∧ ∀ w, I w → Q .normal a w
  | fuel + 1, listed, a, S, I => (Region.ready md ops listed = [] → ∀ w, I w → Q .normal a w) ∧
      ∀ i ∈ Region.ready md ops listed, ∀ w, I w → wpOp P ops Q i (fun a' w' => ∃ S' I' : World → Prop, Grow I' ∧ (∀ x, I' x → S' x) ∧ (∀ x, S' x → S x) ∧ I' w' ∧ wpAnyE P md ops Q fuel (listed.setIfInBounds i true) a' S' I') a w
theorem wpAny_of_E : ∀ (fuel : Nat) (listed : Array Bool) (a : Act) (S I : World → Prop) (w : World), I w → wpAnyE P md ops Q fuel listed a S I → wpAny P md ops Q fuel listed a w
  | 0, _, _, _, _, w, hw, h => ⟨h.1, h.2 w hw⟩
  | fuel + 1, _, _, _, _, w, hw, h => ⟨fun h0 => h.1 h0 w hw, fun i hi => wpOp_mono (fun a' w' ⟨S', I', _, _, _, h4, h5⟩ => wpAny_of_E fuel _ a' S' I' w' h4 h5) (h.2 i hi w hw)⟩
theorem wpAnyE_first {i : Nat} {oi : Oper} {v : Value} (hi : ops[i]? = some oi) (hsel : ∀ (j : Nat) (o : Oper) cs b, ops[j]? = some o → o.op ≠ .select cs b) (hQ : ∀ c a w, Q (.panic c) (a.put oi.dst v) w → Q (.panic c) a w) :
    ∀ (fuel : Nat) (listed : Array Bool) (a : Act) (S I : World → Prop), Grow I → (∀ x, I x → S x) →
      (∀ j oj, ops[j]? = some oj → j ≠ i → listed.getD j true = false → (∀ e ∈ oj.after, Region.binds md e = true → e.on ≠ i) → oi.apart ops oj = true) →
      i ∈ Region.ready md ops listed → SoftIn P ops S oi v a → wpAnyE P md ops Q fuel (listed.setIfInBounds i true) (a.put oi.dst v) S I → wpAnyE P md ops Q (fuel + 1) listed a S I := by
  intro fuel
  induction fuel with
  | zero =>
    intro listed a S I hG hIS _ hr hy H
    refine ⟨fun h => (by rw [h] at hr; cases hr), fun j hj w hw => ?_⟩
    by_cases hji : j = i
    · subst hji
      exact hy.run hG hi (hIS w hw) hw (fun w' hw' => ⟨S, I, hG, hIS, fun _ q => q, hw', H⟩)
    · have := ready_mono hj hji
      rw [H.1] at this
      cases this
  | succ fuel ih =>
    intro listed a S I hG hIS hfree hr hy H
    refine ⟨fun h => (by rw [h] at hr; cases hr), fun j hj w hw => ?_⟩
    by_cases hji : j = i
    · subst hji
      exact hy.run hG hi (hIS w hw) hw (fun w' hw' => ⟨S, I, hG, hIS, fun _ q => q, hw', H⟩)
    · have g1 := H.2 j (ready_mono hj hji) w hw
      obtain ⟨hun, oj, hoj, hall⟩ := mem_ready.1 hj
      have hno : ∀ e ∈ oj.after, Region.binds md e = true → e.on ≠ i := by
        intro e he hb heq
        have q1 := hall e he hb
        have q0 := (mem_ready.1 hr).1
        rw [heq] at q1
        by_cases hlt : i < listed.size
        · simp [hlt] at q0 q1; rw [q0] at q1; cases q1
        · simp [Array.getElem?_eq_none (by omega : listed.size ≤ i)] at q1
      have g2 := soft_put hoj (hfree j oj hoj hji hun hno) (fun cs b => hsel i oi cs b hi) (fun cs b => hsel j oj cs b hoj) hQ hy g1
      refine wpOp_mono (fun a' w' ⟨y1, S', I', k1, k2, k3, k4, k5⟩ => ⟨S', I', k1, k2, k3, k4, ih (listed.setIfInBounds j true) a' S' I' k1 k2 ?_ (ready_mono hr (Ne.symm hji)) (y1.sub k3) ?_⟩) g2
      · intro k ok hk hki hku hkn
        refine hfree k ok hk hki ?_ hkn
        by_cases hjk : j = k
        · subst hjk; exact hun
        · rw [getD_set_ne true hjk] at hku; exact hku
      · rw [Array.setIfInBounds_comm _ _ hji]
        exact k5

variable {w0 w : World} {H Hs : List Blk} {D Ds : World → Prop} {a : Act} {listed : Array Bool} {fuel : Nat}
theorem region_soft {id : Nat} (hm : P.follows .mixedOrders = true) (sh : Sh w0 w H D) (hs : ∀ x, Sh w0 x H D → Sh w0 x Hs Ds)
    (h : wpAnyE P .any ops Q ops.size (Array.replicate ops.size false) a (Cls w0 Hs Ds) (Cls w0 H D)) : (Code.region id ops true).wp P Q a w :=
  wp_region_any hm (wpAny_of_E _ _ _ _ _ _ sh.drew h)
theorem soft_take {i : Nat} {oi : Oper} (v : Value) (hi : ops[i]? = some oi) (hs : Region.noSelect ops = true) (hf : Region.free md ops listed i = true) (hr : (Region.ready md ops listed).contains i = true)
    (hQ : ∀ c a w, Q (.panic c) (a.put oi.dst v) w → Q (.panic c) a w) (hsub : ∀ x, Sh w0 x H D → Sh w0 x Hs Ds) (hw : Region.wanted oi (yielded ops a.tmps) = true) (hy : ∀ w, Sh w0 w Hs Ds → (execOp a.eval oi).run P w = .ok (.value v) w)
    (h : wpAnyE P md ops Q fuel (listed.setIfInBounds i true) (a.put oi.dst v) (Cls w0 Hs Ds) (Cls w0 H D)) : wpAnyE P md ops Q (fuel + 1) listed a (Cls w0 Hs Ds) (Cls w0 H D) :=
  wpAnyE_first hi (Region.noSelect_spec hs) hQ fuel listed a _ _ (Cls.grow _ _ _) hsub (Region.free_spec hi hf) (by simpa using hr) (.inl ⟨hw, fun w hS => by rw [hy w hS]; exact ⟨rfl, rfl⟩⟩) h
theorem soft_skip {i : Nat} {oi : Oper} (hi : ops[i]? = some oi) (hs : Region.noSelect ops = true) (hf : Region.free md ops listed i = true) (hr : (Region.ready md ops listed).contains i = true)
    (hQ : ∀ c a w, Q (.panic c) (a.put oi.dst undef) w → Q (.panic c) a w) (hsub : ∀ x, Sh w0 x H D → Sh w0 x Hs Ds) (hw : Region.wanted oi (yielded ops a.tmps) = false)
    (h : wpAnyE P md ops Q fuel (listed.setIfInBounds i true) (a.put oi.dst undef) (Cls w0 Hs Ds) (Cls w0 H D)) : wpAnyE P md ops Q (fuel + 1) listed a (Cls w0 Hs Ds) (Cls w0 H D) :=
  wpAnyE_first hi (Region.noSelect_spec hs) hQ fuel listed a _ _ (Cls.grow _ _ _) hsub (Region.free_spec hi hf) (by simpa using hr) (.inr ⟨hw, rfl⟩) h
theorem soft_call {i : Nat} {oi : Oper} (v : Value) (f : FuncId) (args : Array Value) (hi : ops[i]? = some oi) (hs : Region.noSelect ops = true) (hf : Region.free md ops listed i = true) (hr : (Region.ready md ops listed).contains i = true)
    (hQ : ∀ c a w, Q (.panic c) (a.put oi.dst v) w → Q (.panic c) a w) (hsub : ∀ x, Sh w0 x H D → Sh w0 x Hs Ds) (hw : Region.wanted oi (yielded ops a.tmps) = true) (hy : ∀ w, Sh w0 w Hs Ds → (execOp a.eval oi).run P w = .ok (.enter f args) w)
    (hc : ∀ w, Sh w0 w Hs Ds → Calls P f args w fun e w' => e = .returned v ∧ Below w.heap.size w w')
    (h : wpAnyE P md ops Q fuel (listed.setIfInBounds i true) (a.put oi.dst v) (Cls w0 Hs Ds) (Cls w0 H D)) : wpAnyE P md ops Q (fuel + 1) listed a (Cls w0 Hs Ds) (Cls w0 H D) :=
  wpAnyE_first hi (Region.noSelect_spec hs) hQ fuel listed a _ _ (Cls.grow _ _ _) hsub (Region.free_spec hi hf) (by simpa using hr) (.inl ⟨hw, fun w hS => by rw [hy w hS]; exact ⟨rfl, hc w hS⟩⟩) h
theorem tk {i : Nat} {oi : Oper} {a' : Act} (v : Value) (hsub : ∀ x, Sh w0 x H D → Sh w0 x Hs Ds) (hy : ∀ w, Sh w0 w Hs Ds → (execOp a.eval oi).run P w = .ok (.value v) w)
    (h : wpAnyE P md ops Q fuel (listed.setIfInBounds i true) a' (Cls w0 Hs Ds) (Cls w0 H D))
    (hi : ops[i]? = some oi := by rfl) (hb : (Region.noSelect ops && Region.free md ops listed i && (Region.ready md ops listed).contains i) = true := by kernel_rfl)
    (hw : Region.wanted oi (yielded ops a.tmps) = true := by rfl) (hQ : ∀ c a w, Q (.panic c) (a.put oi.dst v) w → Q (.panic c) a w := by exact fun _ _ _ h => h) (ha : a.put oi.dst v = a' := by ((try simp only [Act.put, Hp.p1, Hp.p2, Hp.p3]); (try rfl))) : wpAnyE P md ops Q (fuel + 1) listed a (Cls w0 Hs Ds) (Cls w0 H D) := by
  subst ha
  simp only [Bool.and_eq_true] at hb
  exact soft_take v hi hb.1.1 hb.1.2 hb.2 hQ hsub hw hy h
theorem tks {i : Nat} {oi : Oper} {a' : Act} {v : Value} (hsub : ∀ x, Sh w0 x H D → Sh w0 x Hs Ds)
    (h : wpAnyE P md ops Q fuel (listed.setIfInBounds i true) a' (Cls w0 Hs Ds) (Cls w0 H D))
    (hy : ∀ w, Sh w0 w Hs Ds → (execOp a.eval oi).run P w = .ok (.value v) w := by (intro W hW; go_simp; (try with_reducible rfl)))
    (hi : ops[i]? = some oi := by rfl) (hb : (Region.noSelect ops && Region.free md ops listed i && (Region.ready md ops listed).contains i) = true := by kernel_rfl)
    (hw : Region.wanted oi (yielded ops a.tmps) = true := by rfl) (hQ : ∀ c a w, Q (.panic c) (a.put oi.dst v) w → Q (.panic c) a w := by exact fun _ _ _ h => h) (ha : a.put oi.dst v = a' := by ((try simp only [Act.put, Hp.p1, Hp.p2, Hp.p3]); (try rfl))) : wpAnyE P md ops Q (fuel + 1) listed a (Cls w0 Hs Ds) (Cls w0 H D) :=
  tk v hsub hy h hi hb hw hQ ha
theorem skp {i : Nat} {oi : Oper} {a' : Act} (hsub : ∀ x, Sh w0 x H D → Sh w0 x Hs Ds)
    (h : wpAnyE P md ops Q fuel (listed.setIfInBounds i true) a' (Cls w0 Hs Ds) (Cls w0 H D))
    (hi : ops[i]? = some oi := by rfl) (hb : (Region.noSelect ops && Region.free md ops listed i && (Region.ready md ops listed).contains i) = true := by kernel_rfl)
    (hw : Region.wanted oi (yielded ops a.tmps) = false := by rfl) (hQ : ∀ c a w, Q (.panic c) (a.put oi.dst undef) w → Q (.panic c) a w := by exact fun _ _ _ h => h) (ha : a.put oi.dst undef = a' := by ((try simp only [Act.put, Hp.p1, Hp.p2, Hp.p3]); (try rfl))) : wpAnyE P md ops Q (fuel + 1) listed a (Cls w0 Hs Ds) (Cls w0 H D) := by
  subst ha
  simp only [Bool.and_eq_true] at hb
  exact soft_skip hi hb.1.1 hb.1.2 hb.2 hQ hsub hw h
theorem cl {i : Nat} {oi : Oper} {a' : Act} (v : Value) (f : FuncId) (args : Array Value) (hsub : ∀ x, Sh w0 x H D → Sh w0 x Hs Ds) (hy : ∀ w, Sh w0 w Hs Ds → (execOp a.eval oi).run P w = .ok (.enter f args) w)
    (hc : ∀ w, Sh w0 w Hs Ds → Calls P f args w fun e w' => e = .returned v ∧ Below w.heap.size w w')
    (h : wpAnyE P md ops Q fuel (listed.setIfInBounds i true) a' (Cls w0 Hs Ds) (Cls w0 H D))
    (hi : ops[i]? = some oi := by rfl) (hb : (Region.noSelect ops && Region.free md ops listed i && (Region.ready md ops listed).contains i) = true := by kernel_rfl)
    (hw : Region.wanted oi (yielded ops a.tmps) = true := by rfl) (hQ : ∀ c a w, Q (.panic c) (a.put oi.dst v) w → Q (.panic c) a w := by exact fun _ _ _ h => h) (ha : a.put oi.dst v = a' := by ((try simp only [Act.put, Hp.p1, Hp.p2, Hp.p3]); (try rfl))) : wpAnyE P md ops Q (fuel + 1) listed a (Cls w0 Hs Ds) (Cls w0 H D) := by
  subst ha
  simp only [Bool.and_eq_true] at hb
  exact soft_call v f args hi hb.1.1 hb.1.2 hb.2 hQ hsub hw hy hc h
theorem soft_done (hr : Region.ready md ops listed = []) (h : ∀ w, Sh w0 w H D → Q .normal a w) : ∀ fuel, wpAnyE P md ops Q fuel listed a (Cls w0 Hs Ds) (Cls w0 H D)
  | 0 => ⟨hr, h⟩
  | _ + 1 => ⟨fun _ => h, by rw [hr]; simp⟩
/-- One that makes or writes memory, where nothing else may come up. -/
theorem soft_make {i : Nat} {o : Oper} (hr : Region.ready md ops listed = [i]) (ho : ops[i]? = some o) (hw : Region.wanted o (yielded ops a.tmps) = true)
    (h : ∀ w, Sh w0 w H D → ∀ K : Act → World → Prop, (∀ (a' : Act) (w' : World) (H' Hs' : List Blk) (D' Ds' : World → Prop), (∀ x, Sh w0 x H' D' → Sh w0 x Hs' Ds') → (∀ x, Sh w0 x Hs' Ds' → Sh w0 x Hs Ds) → Sh w0 w' H' D' →
      wpAnyE P md ops Q fuel (listed.setIfInBounds i true) a' (Cls w0 Hs' Ds') (Cls w0 H' D') → K a' w') → Oper.wp P o a w K Q) : wpAnyE P md ops Q (fuel + 1) listed a (Cls w0 Hs Ds) (Cls w0 H D) := by
  refine ⟨fun h0 => (by rw [hr] at h0; cases h0), fun j hj w hI => ?_⟩
  rw [hr] at hj
  obtain rfl := List.mem_singleton.1 hj
  unfold wpOp
  rw [ho]
  show if Region.wanted o (yielded ops a.tmps) = true then _ else _
  rw [if_pos hw]
  exact .inl (h w hI _ (fun a' w' H' Hs' D' Ds' s1 s2 sh k => ⟨Cls w0 Hs' Ds', Cls w0 H' D', Cls.grow _ _ _, s1, s2, sh, k⟩))
/-- Two of them may come up: each is gone through first. -/
def SoftStep (P : Program) (md : Region.Mode) (ops : Array Oper) (Q : Exit → Act → World → Prop) (w0 : World) (H Hs : List Blk) (D Ds : World → Prop) (a : Act) (listed : Array Bool) (fuel : Nat) (i : Nat) : Prop :=
  ∀ w, Sh w0 w H D → wpOp P ops Q i (fun a' w' => ∃ S' I' : World → Prop, Grow I' ∧ (∀ x, I' x → S' x) ∧ (∀ x, S' x → Cls w0 Hs Ds x) ∧ I' w' ∧ wpAnyE P md ops Q fuel (listed.setIfInBounds i true) a' S' I') a w
theorem soft_two {i j : Nat} (hr : Region.ready md ops listed = [i, j]) (hi : SoftStep P md ops Q w0 H Hs D Ds a listed fuel i) (hj : SoftStep P md ops Q w0 H Hs D Ds a listed fuel j) : wpAnyE P md ops Q (fuel + 1) listed a (Cls w0 Hs Ds) (Cls w0 H D) := by
  refine ⟨fun h0 => (by rw [hr] at h0; cases h0), fun k hk w hI => ?_⟩
  rw [hr] at hk
  rcases List.mem_cons.1 hk with rfl | hk
  · exact hi w hI
  · obtain rfl := List.mem_singleton.1 hk
    exact hj w hI
theorem soft_step {i : Nat} {o : Oper} (ho : ops[i]? = some o) (hw : Region.wanted o (yielded ops a.tmps) = true)
    (h : ∀ w, Sh w0 w H D → ∀ K : Act → World → Prop, (∀ (a' : Act) (w' : World) (H' Hs' : List Blk) (D' Ds' : World → Prop), (∀ x, Sh w0 x H' D' → Sh w0 x Hs' Ds') → (∀ x, Sh w0 x Hs' Ds' → Sh w0 x Hs Ds) → Sh w0 w' H' D' →
      wpAnyE P md ops Q fuel (listed.setIfInBounds i true) a' (Cls w0 Hs' Ds') (Cls w0 H' D') → K a' w') → Oper.wp P o a w K Q) : SoftStep P md ops Q w0 H Hs D Ds a listed fuel i := by
  intro w hI
  unfold wpOp
  rw [ho]
  show if Region.wanted o (yielded ops a.tmps) = true then _ else _
  rw [if_pos hw]
  exact .inl (h w hI _ (fun a' w' H' Hs' D' Ds' s1 s2 sh k => ⟨Cls w0 Hs' Ds', Cls w0 H' D', Cls.grow _ _ _, s1, s2, sh, k⟩))
end
end Hp

end Go.Proofs.YtfcffglgkblidaaDoor
