/- The walks of awake and EventShort. -/
import Derived.Test.YtmlbdblnmbmnpaaGreatDoorProg
import Derived.WalkKit
import Derived.WalkSpells
import Derived.WalkLawsBesides
import Derived.Lib.Hide
import Derived.Deep.RegionWith
import Derived.Deep.Cut
import Derived.Test.YtmlbdblnmbmnpaaGreatDoorRdAB
import Derived.Test.YtmlbdblnmbmnpaaGreatDoorEvAC
import Derived.Test.YtmlbdblnmbmnpaaGreatDoorOpen4
set_option linter.unusedVariables false
set_option linter.unusedSimpArgs false
namespace Go.Proofs.YtmlbdblnmbmnpaaGreatDoor
open Go.RowKit Tryst
set_option maxHeartbeats 400000
set_option maxRecDepth 20000
def f0 : FB := ⟨⟨#[120]⟩, true, 7, ⟨#[]⟩⟩
end Go.Proofs.YtmlbdblnmbmnpaaGreatDoor
namespace Go.Proofs.YtmlbdblnmbmnpaaGreatDoor
open Go.RowKit Tryst
set_option maxHeartbeats 400000
set_option maxRecDepth 20000
theorem few_ok {l : List FB} (h : FIn l) : FOk (fewL l) ∧ (∀ f ∈ fewL l, f.name.size ≤ 60 ∧ f.s.size ≤ 70) ∧ (fewL l).length ≤ 10 := by
 refine ⟨fun f hf => ?_, fun f hf => ?_, by unfold fewL; rw [List.length_map, List.length_take]; omega⟩
 ·
  obtain ⟨g, hg, rfl⟩ := List.mem_map.1 hf
  have h1 := h g (List.mem_of_mem_take hg)
  have h2 := few60_le g.name
  have h3 := few_le g.s
  exact ⟨by show (few60 g.name).size ≤ _; omega, by show (few g.s).size ≤ _; omega, h1.2.2.1, h1.2.2.2⟩
 ·
  obtain ⟨g, hg, rfl⟩ := List.mem_map.1 hf
  exact ⟨few60_le g.name, few_le g.s⟩
theorem few_in {l : List FB} (h : FIn l) : ∀ f ∈ l, f.name.size ≤ 9223372036854775807 ∧ f.s.size ≤ 9223372036854775807 := fun f hf => ⟨(h f hf).1, (h f hf).2.1⟩
theorem maxW_of {w : World} (h : w.ShapedOpen Tryz.prog) : MaxW w := by
 obtain ⟨m, hm⟩ := Go.Proofs.cell_of_shapedOpen_int (zero := #[.int .i64 0]) (t := 3) (g := 0) h (of_decide_eq_true (by kernel_rfl)) (by kernel_rfl) rfl (by kernel_rfl) (by kernel_rfl) Tryz.underlying3
 exact ⟨⟨m, hm⟩, (cell_lt hm).1⟩
theorem new_box (w : World) (cs : Array Value) (T : TypeId) : (w.alloc (.cells cs T)).heap[w.heap.size]? = some (.cells cs T (0, 0)) := by show (w.heap.push _)[_]? = _; simp
end Go.Proofs.YtmlbdblnmbmnpaaGreatDoor
