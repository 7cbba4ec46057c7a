
/-
  The walk of gather.
-/
import Derived.Test.YtfcffglgkblidaaDoorBat2
namespace Go.Proofs.YtfcffglgkblidaaDoor
open Go.RowKit
set_option linter.unusedVariables false
set_option linter.unusedSimpArgs false
theorem wp_lits {P : Program} {w0 w : World} {H : List Hp.Blk} {D : World → Prop} {dst : Option Tmp} {ty : TypeId} {pos : String} {af : Array Edge} {g : Option (Nat × Bool)} {a : Act} {K : Act → World → Prop} {Q : Exit → Act → World → Prop} {T t : TypeId} {n m : Nat} {parts : List (Nat × Operand)} {c : Array Value}
    (h : ∀ w, (Instr.buildSlice T n (parts.toArray.map fun p => (p.1, a.eval p.2))).run P w = .ok (.slice (some ⟨w.heap.size, 0, none⟩) m m) (w.alloc (.cells c t))) (sh : Hp.Sh w0 w H D)
    (k : ∀ b w', Hp.Sh w0 w' ((b, c, t) :: H) D → K (a.put dst (.slice (some ⟨b, 0, none⟩) m m)) w') : Oper.wp P ⟨dst, .buildSlice T n parts.toArray, ty, pos, af, g⟩ a w K Q := by
  have := k _ _ (sh.alloc c t)
  have hr := h w
  rw [List.map_toArray] at hr
  simpa [Oper.wp, execOp, hr, Oper.upon, Result.andThen] using this
theorem Tryd.i_evt : (Tryd.prog.info? 47).map (fun i => (i.zero, i.size, i.bytes)) = some (some (.agg #[.int .u64 0, .int .i64 0, .int .i64 0, .int .i64 0, .int .i64 0, .int .i64 0]), 6, 48) := by kernel_rfl
namespace BatP
theorem evs_app (A : List Ev) (x : Ev) : A.flatMap EvP.evc ++ EvP.evc x = (A ++ [x]).flatMap EvP.evc := by simp
/-- What gather leaves. -/
def GatP (o : Option (List Ev × List UInt8)) (br : Nat) (w0 : World) (H : List Hp.Blk) (D : World → Prop) (e : Ending) (w' : World) : Prop :=
  match o with
  | none => PanP br w0 H D e w'
  | some (l, r) => ∃ s c, e = .returned (.slice s l.length c) ∧ Hp.Sh w0 w' ((br, #[.string (bstr r)], 93) :: H) (fun W => Hp.RdV W s (l.flatMap EvP.evc) ∧ D W) ∧ (∀ p, s = some p → w0.heap.size ≤ p.block) ∧ l.length ≤ c ∧ c ≤ maxLen
theorem GatP.none {o : Option (List Ev × List UInt8)} {br : Nat} {w0 w' : World} {H : List Hp.Blk} {D : World → Prop} {e : Ending} (ho : o = Option.none) (h : PanP br w0 H D e w') : GatP o br w0 H D e w' := by subst ho; exact h
theorem GatP.mk {o : Option (List Ev × List UInt8)} {l : List Ev} {r : List UInt8} {br : Nat} {w0 w' : World} {R H : List Hp.Blk} {D : World → Prop} {e : Ending} {s : Option Addr} {n c : Nat} (ho : o = some (l, r)) (hn : l.length = n) (he : e = .returned (.slice s n c)) (sh : Hp.Sh w0 w' (R ++ (br, #[.string (bstr r)], 93) :: H) D) (hr : Hp.RowIs 47 6 (.slice s n c) n (l.flatMap EvP.evc) R) : GatP o br w0 H D e w' := by
  subst ho hn
  obtain ⟨s', c', h1, h2, h3, h4⟩ := hr.slice
  cases h1
  exact ⟨s, c, he, Hp.Sh.freeze sh hr, Hp.row_new sh hr, h3, h4⟩
/-- Events gathered so far. -/
def GAt (many : Nat) (s : List UInt8) (k : Nat) (told : List Ev) (rest : List UInt8) : Prop := told.length = k ∧ rest.length ≤ 40000 ∧ evsT many s = pre told (evsT (many - k) rest)
theorem GAt.start {many : Nat} {s : List UInt8} (hs : s.length ≤ 40000) : GAt many s 0 [] s := ⟨rfl, hs, by rw [Nat.sub_zero, pre_nil]⟩
theorem GAt.yes {many k : Nat} {s rest r : List UInt8} {told : List Ev} {x : Ev} (h : GAt many s k told rest) (hk : k < many) (hx : evT rest = some (x, r)) : GAt many s (k + 1) (told ++ [x]) r := by
  have := evT_len hx
  refine ⟨by rw [List.length_append, List.length_singleton, h.1], by have := h.2.1; omega, ?_⟩
  rw [h.2.2, show many - k = (many - (k + 1)) + 1 by omega, evsT_some hx]
theorem GAt.no {many k : Nat} {s rest : List UInt8} {told : List Ev} (h : GAt many s k told rest) (hk : k < many) (hx : evT rest = none) : evsT many s = none := by
  rw [h.2.2, show many - k = (many - (k + 1)) + 1 by omega, evsT_none hx]
theorem GAt.full {many k : Nat} {s rest : List UInt8} {told : List Ev} (h : GAt many s k told rest) (hk : many ≤ k) : evsT many s = some (told, rest) := by
  rw [h.2.2, show many - k = 0 by omega]
  show some (told ++ [], rest) = _
  rw [List.append_nil]
end BatP

set_option maxHeartbeats 4000000 in
set_option maxRecDepth 100000 in
theorem bgather_bad (many : Nat) (hm : many < 1 ∨ 256 < many) (fv : Value) (w : World) : Calls Tryd.prog 70 #[.int .u64 (many : Int), fv] w fun e w' => e = .panicked [{ v := .iface 28 (.int .i64 3), recovered := false }] ∧ Below w.heap.size w w' := by
  have sh := (Hp.Sh.start (fun _ _ => trivial) : Hp.Sh w w [] (fun _ => True))
  have K0 := Lib.hid (fun W => bmust_no W)
  by_cases h1 : many < 1
  · have d1 : decide ((1 : Int) ≤ (many : Int)) = false := by simp; omega
    have d2 : decide (1 ≤ many) = false := by simp; omega
    clear hm h1
    go_enter Tryd.func70, Tryd.ntmps70
    have F := sh.fx
    go_wp2_with (first
        | ((with_reducible first | refine Hp.wpl_box sh ?_ ?_ | refine Hp.wpa sh ?_ ?_ | refine Hp.atl_store ?_ ?_); exact rfl; (try (refine Hp.wsB sh ?_)); clear sh; (try clear F); go_simp; (first | intro b w1 sh | intro w1 sh); have F := sh.fx)
        | fail)
    go_fit (K0.out _)
    rintro e w1 ⟨rfl, hb⟩
    replace sh := sh.call hb; clear hb; (try clear F); have F := sh.fx
    go_wp2_with (first
        | ((with_reducible first | refine Hp.wpl_box sh ?_ ?_ | refine Hp.wpa sh ?_ ?_ | refine Hp.atl_store ?_ ?_); exact rfl; (try (refine Hp.wsB sh ?_)); clear sh; (try clear F); go_simp; (first | intro b w1 sh | intro w1 sh); have F := sh.fx)
        | fail)
    exact ⟨rfl, rfl, sh.below⟩
  · have d1 : decide ((1 : Int) ≤ (many : Int)) = true := by simp; omega
    have d2 : decide (1 ≤ many) = true := by simp; omega
    have d3 : decide ((many : Int) ≤ (256 : Int)) = false := by simp; omega
    have d4 : decide (many ≤ 256) = false := by simp; omega
    clear hm h1
    go_enter Tryd.func70, Tryd.ntmps70
    have F := sh.fx
    go_wp2_with (first
        | ((with_reducible first | refine Hp.wpl_box sh ?_ ?_ | refine Hp.wpa sh ?_ ?_ | refine Hp.atl_store ?_ ?_); exact rfl; (try (refine Hp.wsB sh ?_)); clear sh; (try clear F); go_simp; (first | intro b w1 sh | intro w1 sh); have F := sh.fx)
        | fail)
    go_fit (K0.out _)
    rintro e w1 ⟨rfl, hb⟩
    replace sh := sh.call hb; clear hb; (try clear F); have F := sh.fx
    go_wp2_with (first
        | ((with_reducible first | refine Hp.wpl_box sh ?_ ?_ | refine Hp.wpa sh ?_ ?_ | refine Hp.atl_store ?_ ?_); exact rfl; (try (refine Hp.wsB sh ?_)); clear sh; (try clear F); go_simp; (first | intro b w1 sh | intro w1 sh); have F := sh.fx)
        | fail)
    exact ⟨rfl, rfl, sh.below⟩

set_option maxHeartbeats 4000000 in
set_option maxRecDepth 100000 in
theorem bgather (many : Nat) (h1 : 1 ≤ many) (h2 : many ≤ 256) (br : Nat) (s : List UInt8) (hs : s.length ≤ 40000) {w0 w : World} {H : List Hp.Blk} {D : World → Prop} (sh : Hp.Sh w0 w ((br, #[.string (bstr s)], 93) :: H) D) :
    Calls Tryd.prog 70 #[.int .u64 (many : Int), .func (.func 71) #[.pointer (some ⟨br, 0, none⟩)] #[]] w fun e w' => BatP.GatP (BatP.evsT many s) br w0 H D e w' := by
  have K0 := Lib.hid (fun W => bmust_yes W)
  have HG := Lib.hid (BatP.GAt.start (many := many) hs)
  have d1 : decide ((1 : Int) ≤ (many : Int)) = true := by simp; omega
  have d2 : decide (1 ≤ many) = true := by simp; omega
  have d3 : decide ((many : Int) ≤ (256 : Int)) = true := by simp; omega
  have d4 : decide (many ≤ 256) = true := by simp; omega
  have z1 : IntKind.i64.wrap (many : Int) = (many : Int) := by rw [IntWalk.i64_in _ (by omega)]
  clear hs
  go_enter Tryd.func70, Tryd.ntmps70
  have F := sh.fx
  go_wp2_with (first
      | ((with_reducible first | refine Hp.wpl_box sh ?_ ?_ | refine Hp.wpa sh ?_ ?_ | refine Hp.atl_store ?_ ?_); exact rfl; (try (refine Hp.wsB sh ?_)); clear sh; (try clear F); go_simp; (first | intro b w1 sh | intro w1 sh); have F := sh.fx)
      | fail)
  go_fit (K0.out _)
  rintro e w1 ⟨rfl, hb⟩
  replace sh := sh.call hb; clear hb; (try clear F); have F := sh.fx
  go_wp2_with (first
      | ((with_reducible refine Hp.atl_make ?_ ?_); exact rfl; (refine Hp.wp_make (m := 0) (kl := .i64) (kc := .i64) many Tryd.i_evt Tryd.underlying24 (by decide) sh rfl rfl (Nat.zero_le _) (by omega) ?_); clear sh; (try clear F); intro g w1 sh; go_simp; (have F : True := trivial))
      | ((with_reducible first | refine Hp.wpl_box sh ?_ ?_ | refine Hp.wpa sh ?_ ?_ | refine Hp.atl_store ?_ ?_); exact rfl; (try (refine Hp.wsB sh ?_)); clear sh; (try clear F); go_simp; (first | intro b w1 sh | intro w1 sh); have F := sh.fx)
      | fail)
  clear d1 d2 d3 d4 z1
  obtain ⟨cur, hcur⟩ : ∃ c, madeCells (Value.agg #[.int .u64 0, .int .i64 0, .int .i64 0, .int .i64 0, .int .i64 0, .int .i64 0]).cells (many * 6) = c := ⟨_, rfl⟩
  have hcs : cur.size = many * 6 := by rw [← hcur, size_madeCells]
  rw [hcur] at sh
  have HR := Lib.hid (Hp.row_made (e := 47) (g := g) (by unfold maxLen; omega) hcs)
  clear hcur hcs
  go_loopw [5, 17] (fun v i wr => ∃ (j : Nat) (R : List Hp.Blk) (told : List EvP.Ev) (rest : List UInt8), i = .int .u64 j ∧ j ≤ many ∧ Hid (Hp.RowIs 47 6 v j (told.flatMap EvP.evc) R ∧ BatP.GAt many s j told rest) ∧ Hp.Sh w0 wr (R ++ (br, #[.string (bstr rest)], 93) :: H) D) (fun _ i _ => many - (intOf i).toNat)
  case atStart => exact ⟨0, _, [], s, rfl, by omega, ⟨HR.out, HG.out⟩, sh⟩
  case round =>
    clear sh F HR HG
    obtain ⟨j, R, told, rest, rfl, hj, HK, sh⟩ := hrel
    have HR := Lib.hid HK.out.1
    have HG := Lib.hid HK.out.2
    have hrest := HG.out.2.1
    have htl := HG.out.1
    clear HK
    obtain ⟨s1, c1, rfl, -, -, -⟩ := HR.out.slice
    by_cases hlt : j < many
    · have hlI : (j : Int) < (many : Int) := by omega
      have z2 : IntKind.u64.wrap ((j : Int) + 1) = (j : Int) + 1 := by simp [IntKind.wrap, IntKind.bits, IntKind.signed]; omega
      replace sh : Hp.Sh w0 _ ((br, #[.string (bstr rest)], 93) :: (R ++ H)) D := sh.perm List.perm_middle
      cases hx : BatP.evT rest with
      | some xr =>
        obtain ⟨⟨q, t, p, k, a, b⟩, r⟩ := xr
        have HA := Lib.hid (HG.out.yes hlt hx)
        have K1 := Lib.hid (fun W (sh : Hp.Sh w0 W ((br, #[.string (bstr rest)], 93) :: (R ++ H)) D) => bevent_yes br rest hrest q t p k a b hx sh)
        clear hx HG htl
        have F : True := trivial
        go_wp2_with (first
            | ((with_reducible first | refine Hp.wpl_box sh ?_ ?_ | refine Hp.wpa sh ?_ ?_ | refine Hp.atl_store ?_ ?_); exact rfl; (try (refine Hp.wsB sh ?_)); clear sh; (try clear F); go_simp; (first | intro b w1 sh | intro w1 sh); have F := sh.fx)
            | fail)
        go_fit (K1.out _ sh)
        clear sh; (try clear F)
        rintro e w1 ⟨rfl, sh⟩
        have F := sh.fx
        replace sh : Hp.Sh w0 _ (R ++ (br, #[.string (bstr r)], 93) :: H) D := sh.perm (List.perm_middle).symm
        clear F
        have F : True := trivial
        go_wp2_with (first
            | ((with_reducible refine Hp.atl_lit ?_ ?_); exact rfl; (refine wp_lits (m := 1) (c := #[.int .u64 q, .int .i64 t, .int .i64 p, .int .i64 k, .int .i64 a, .int .i64 b]) (t := 47) (fun w => by kernel_rfl) sh ?_); clear sh; (try clear F); intro bl w1 sh; replace sh := sh.freeze1 (vs := EvP.evc (q, t, p, k, a, b)) (fun i v h => by simpa [EvP.evc] using h); (have F : True := trivial); go_simp)
            | ((with_reducible refine Hp.atl_append 19 ?_ ?_); exact rfl; (refine Hp.wp_append (R := R) (H := (br, #[.string (bstr r)], 93) :: H) (news := EvP.evc (q, t, p, k, a, b)) Tryd.i_evt Tryd.underlying24 (by decide) rfl (by decide) sh HR.out rfl rfl rfl sh.data.1 (fun h => by cases h) (Hp.ones_mem rfl) (by omega) ?_); clear sh; (try clear F); intro v1 R1 w1 sh hr; rw [BatP.evs_app] at hr; have HR1 := Lib.hid hr; clear hr; go_simp)
            | ((with_reducible first | refine Hp.wpl_box sh ?_ ?_ | refine Hp.wpa sh ?_ ?_ | refine Hp.atl_store ?_ ?_); exact rfl; (try (refine Hp.wsB sh ?_)); clear sh; (try clear F); go_simp; (first | intro b w1 sh | intro w1 sh); have F := sh.fx)
            | fail)
        go_roundw
        case rel => exact ⟨j + 1, R1, told ++ [(q, t, p, k, a, b)], r, by go_num, by omega, ⟨HR1.out, HA.out⟩, sh.imp fun _ h => h.2⟩
        case measure => simp [intOf]; omega
      | none =>
        have HA := Lib.hid (HG.out.no hlt hx)
        have K1 := Lib.hid (fun W (sh : Hp.Sh w0 W ((br, #[.string (bstr rest)], 93) :: (R ++ H)) D) => bevent_no br rest hrest hx sh)
        clear hx HG htl
        have F : True := trivial
        go_wp2_with (first
            | ((with_reducible first | refine Hp.wpl_box sh ?_ ?_ | refine Hp.wpa sh ?_ ?_ | refine Hp.atl_store ?_ ?_); exact rfl; (try (refine Hp.wsB sh ?_)); clear sh; (try clear F); go_simp; (first | intro b w1 sh | intro w1 sh); have F := sh.fx)
            | fail)
        go_fit (K1.out _ sh)
        clear sh
        rintro e w1 ⟨rfl, t, sh⟩
        go_wp2_with (first
            | ((with_reducible first | refine Hp.wpl_box sh ?_ ?_ | refine Hp.wpa sh ?_ ?_ | refine Hp.atl_store ?_ ?_); exact rfl; (try (refine Hp.wsB sh ?_)); clear sh; (try clear F); go_simp; (first | intro b w1 sh | intro w1 sh); have F := sh.fx)
            | fail)
        exact ⟨rfl, BatP.GatP.none HA.out ⟨rfl, t, sh.sub (List.Sublist.cons_cons _ (List.sublist_append_right _ _))⟩⟩
    · have HA := Lib.hid (HG.out.full (by omega))
      have hjm : j = many := by omega
      subst hjm
      have F : True := trivial
      go_wp2_with (first
          | ((with_reducible first | refine Hp.wpl_box sh ?_ ?_ | refine Hp.wpa sh ?_ ?_ | refine Hp.atl_store ?_ ?_); exact rfl; (try (refine Hp.wsB sh ?_)); clear sh; (try clear F); go_simp; (first | intro b w1 sh | intro w1 sh); have F := sh.fx)
          | fail)
      go_ret
      exact BatP.GatP.mk HA.out htl rfl sh HR.out
end Go.Proofs.YtfcffglgkblidaaDoor
