/- The walks of awake and EventShort. -/
import Derived.Test.YtmlbdblnmbmnpaaGreatDoorProg
import Derived.WalkKit
import Derived.WalkSpells
import Derived.WalkLawsBesides
import Derived.Lib.Hide
import Derived.Deep.RegionWith
import Derived.Deep.Cut
import Derived.Test.YtmlbdblnmbmnpaaGreatDoorRdAB
import Derived.Test.YtmlbdblnmbmnpaaGreatDoorEvAC
import Derived.Test.YtmlbdblnmbmnpaaGreatDoorOpen4
set_option linter.unusedVariables false
set_option linter.unusedSimpArgs false
namespace Go.Proofs.YtmlbdblnmbmnpaaGreatDoor
open Go.RowKit Tryst
set_option maxHeartbeats 400000
set_option maxRecDepth 20000
def f0 : FB := ⟨⟨#[120]⟩, true, 7, ⟨#[]⟩⟩
end Go.Proofs.YtmlbdblnmbmnpaaGreatDoor
namespace Go.Proofs.YtmlbdblnmbmnpaaGreatDoor
open Go.RowKit Tryst
set_option maxHeartbeats 400000
set_option maxRecDepth 20000
theorem maxW_of {w : World} (h : w.ShapedOpen Tryz.prog) : MaxW w := by
 obtain ⟨m, hm⟩ := Go.Proofs.cell_of_shapedOpen_int (zero := #[.int .i64 0]) (t := 3) (g := 0) h (of_decide_eq_true (by kernel_rfl)) (by kernel_rfl) rfl (by kernel_rfl) (by kernel_rfl) Tryz.underlying3
 exact ⟨⟨m, hm⟩, (cell_lt hm).1⟩
theorem new_box (w : World) (cs : Array Value) (T : TypeId) : (w.alloc (.cells cs T)).heap[w.heap.size]? = some (.cells cs T (0, 0)) := by show (w.heap.push _)[_]? = _; simp
end Go.Proofs.YtmlbdblnmbmnpaaGreatDoor
