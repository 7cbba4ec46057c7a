/-
  The library's contracts that layer 2 calls, laid at this seat.
-/
import Derived.Shelf.Lay
import Derived.Shelf.Small.Strs
import Derived.Shelf.Strconv.Clone
import Derived.Test.YtkakcpghgipdeaaDoorRows
import Derived.Test.YtkakcpghgipdeaaDoorBase
namespace Go.Proofs.YtkakcpghgipdeaaDoor
open Go.Shelf Go.RowKit
set_option linter.unusedVariables false

shelf_lay Lays.n137 Nm 137 at Tryd as Tryd.lays137
shelf_lay LaysM.n316 Nm 316 at Tryd as Tryd.lays316

theorem dindex (s : ByteArray) (c : Int) (w : World) : Calls Tryd.prog 16 #[.string s, .int .u8 c] w fun e w' => e = .returned (.int .i64 (Lib.indexByte s.data.toList c.toNat.toUInt8)) ∧ w' = w := Any.strings_IndexByte Tryd.lays137 s c w
theorem dclone0 (s : ByteArray) (w : World) (h : s.size ≤ 281474976710656) : Calls Tryd.prog 29 #[.string s] w fun e w' => e = .returned (.string s) ∧ Below w.heap.size w w' := Any.stringslite_Clone Tryd.lays316 s w h
theorem dclone (s : ByteArray) (w : World) (h : s.size ≤ 281474976710656) : Calls Tryd.prog 24 #[.string s] w fun e w' => e = .returned (.string s) ∧ Below w.heap.size w w' := by
  go_enter Tryd.func24, Tryd.ntmps24
  go_wp2_with fail
  go_fit (dclone0 s w h)
  rintro e w1 ⟨rfl, hb⟩
  go_wp2
  go_ret
  exact ⟨rfl, hb⟩

end Go.Proofs.YtkakcpghgipdeaaDoor
