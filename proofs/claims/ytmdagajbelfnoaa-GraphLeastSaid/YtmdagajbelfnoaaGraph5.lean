/-
  The walk of ends.
-/
import Derived.Test.YtmdagajbelfnoaaGraph4
namespace Go.Proofs.Ytmdagajbelfnoaa
open Go.RowKit
set_option linter.unusedVariables false
set_option linter.unusedSimpArgs false

def GraP.EndsP (pl : List Value) (t : Bool) (w0 : World) (H : List Hp.Blk) (D : World → Prop) (e : Ending) (w' : World) : Prop := ∃ bp bt, e = .returned (.func (.func 24) #[] #[.pointer (some ⟨bp, 0, none⟩), .pointer (some ⟨bt, 0, none⟩)]) ∧ Hp.Sh w0 w' H (fun W => GraP.Cap pl bp bt t W ∧ D W)

set_option maxHeartbeats 4000000 in
set_option maxRecDepth 100000 in
theorem gends (pm : Int) (ps : Option Addr) (pn pc : Nat) (ws : Option Addr) (wn wc : Nat) (hs : Option Addr) (hn hc : Nat) (t : Bool) (w0 w : World) (H : List Hp.Blk) (D : World → Prop) (sh : Hp.Sh w0 w H D) :
    Calls Try.prog 20 #[.agg #[.int .i64 pm, .slice ps pn pc, .slice ws wn wc, .slice hs hn hc], .bool t] w fun e w' => GraP.EndsP [.int .i64 pm, .slice ps pn pc, .slice ws wn wc, .slice hs hn hc] t w0 H D e w' := by
  have hmf : ∀ (fn : Fn) (first cap : Array Value) (w : World), (Instr.makeFunc fn first cap).run Try.prog w = .ok (.func fn first cap) w := fun _ _ _ _ => rfl
  go_enter Try.func20, Try.ntmps20
  have F := sh.facts; (try simp only [Hp.Facts, Hp.CellsAt, Nat.reduceAdd, List.cons_append, List.nil_append] at F)
  have tok_bp : True := trivial
  have tok_bt : True := trivial
  go_wp2_with (first
      | ((have tok := tok_bp); clear tok tok_bp; (first | (with_reducible refine Hp.wpl_box sh ?_ ?_)); exact rfl; clear sh; (try clear F); go_simp; intro bp w1 sh; have F := sh.facts; (try simp only [Hp.Facts, Hp.CellsAt, Nat.reduceAdd, List.cons_append, List.nil_append] at F))
      | ((have tok := tok_bt); clear tok tok_bt; (first | (with_reducible refine Hp.wpl_box sh ?_ ?_)); exact rfl; clear sh; (try clear F); go_simp; intro bt w1 sh; have F := sh.facts; (try simp only [Hp.Facts, Hp.CellsAt, Nat.reduceAdd, List.cons_append, List.nil_append] at F))
      | ((with_reducible refine Hp.wpl_box sh ?_ ?_); exact rfl; clear sh; (try clear F); go_simp; intro b w1 sh; have F := sh.facts; (try simp only [Hp.Facts, Hp.CellsAt, Nat.reduceAdd, List.cons_append, List.nil_append] at F))
      | ((with_reducible refine Hp.atl_store ?_ ?_); exact rfl; (first | refine Hp.wp_store 0 sh rfl rfl rfl rfl (by kernel_rfl) (Nat.le_of_ble_eq_true rfl) rfl ?_ | refine Hp.wp_store 1 sh rfl rfl rfl rfl (by kernel_rfl) (Nat.le_of_ble_eq_true rfl) rfl ?_ | refine Hp.wp_store 2 sh rfl rfl rfl rfl (by kernel_rfl) (Nat.le_of_ble_eq_true rfl) rfl ?_ | refine Hp.wp_store 3 sh rfl rfl rfl rfl (by kernel_rfl) (Nat.le_of_ble_eq_true rfl) rfl ?_ | refine Hp.wp_store 4 sh rfl rfl rfl rfl (by kernel_rfl) (Nat.le_of_ble_eq_true rfl) rfl ?_ | refine Hp.wp_store 5 sh rfl rfl rfl rfl (by kernel_rfl) (Nat.le_of_ble_eq_true rfl) rfl ?_ | refine Hp.wp_store 6 sh rfl rfl rfl rfl (by kernel_rfl) (Nat.le_of_ble_eq_true rfl) rfl ?_); clear sh; (try clear F); go_simp; intro w1 sh; have F := sh.facts; (try simp only [Hp.Facts, Hp.CellsAt, Nat.reduceAdd, List.cons_append, List.nil_append] at F))
      | fail)
  go_ret
  refine ⟨bp, bt, rfl, ?_⟩
  have h1 := sh.freeze1 (vs := [.bool t]) (fun i v h => by simpa using h)
  have h2 := h1.freeze1 (vs := [.int .i64 pm, .slice ps pn pc, .slice ws wn wc, .slice hs hn hc]) (fun i v h => by simpa using h)
  exact h2.imp fun W h => ⟨⟨h.1, h.2.1⟩, h.2.2⟩

end Go.Proofs.Ytmdagajbelfnoaa
