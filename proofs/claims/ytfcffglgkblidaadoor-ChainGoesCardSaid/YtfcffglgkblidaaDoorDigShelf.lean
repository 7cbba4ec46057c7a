
/-
  The library's contracts that layer 2 calls, laid at this seat.
-/
import Derived.Shelf.Lay
import Derived.Shelf.Strconv.Clone
import Derived.Test.YtfcffglgkblidaaDoorRows
import Derived.Test.YtfcffglgkblidaaDoorBase
namespace Go.Proofs.YtfcffglgkblidaaDoor
open Go.Shelf Go.RowKit
set_option linter.unusedVariables false

shelf_lay LaysM.n316 Nm 316 at Tryd as Tryd.lays316

theorem dclone0 (s : ByteArray) (w : World) (h : s.size ≤ 281474976710656) : Calls Tryd.prog 79 #[.string s] w fun e w' => e = .returned (.string s) ∧ Below w.heap.size w w' := Any.stringslite_Clone Tryd.lays316 s w h
theorem dclone (s : ByteArray) (w : World) (h : s.size ≤ 281474976710656) : Calls Tryd.prog 57 #[.string s] w fun e w' => e = .returned (.string s) ∧ Below w.heap.size w w' := by
  go_enter Tryd.func57, Tryd.ntmps57
  go_wp2_with fail
  go_fit (dclone0 s w h)
  rintro e w1 ⟨rfl, hb⟩
  go_wp2
  go_ret
  exact ⟨rfl, hb⟩

end Go.Proofs.YtfcffglgkblidaaDoor
