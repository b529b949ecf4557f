/- joined: ref14.Check, Get, Put, SameOffs; law14.Offs. -/
import Derived.Test.YtmlbdblnmbmnpaaGreatDoorProg
import Derived.WalkKit
import Derived.WalkSpells
import Derived.WalkLawsBesides
import Derived.Lib.Hide
import Derived.Deep.RegionWith
import Derived.Deep.Cut
import Derived.IntWalk
import Derived.Test.YtmlbdblnmbmnpaaGreatDoorOffU
import Derived.Test.YtmlbdblnmbmnpaaGreatDoorNmB
import Derived.Test.YtmlbdblnmbmnpaaGreatDoorEv3U
set_option linter.unusedVariables false
set_option linter.unusedSimpArgs false
namespace Tryst
open Go Go.Lib
end Tryst
namespace Go.Proofs.YtmlbdblnmbmnpaaGreatDoor
open Go.RowKit Tryst
set_option maxHeartbeats 2000000
set_option maxRecDepth 20000
end Go.Proofs.YtmlbdblnmbmnpaaGreatDoor
namespace Tryst
open Go Go.Lib
end Tryst
namespace Go.Proofs.YtmlbdblnmbmnpaaGreatDoor
open Go.RowKit Tryst
set_option maxHeartbeats 4000000
set_option maxRecDepth 20000
def RP2 (w : World) (l : List OB) (tp : ByteArray) (pre : List OB) (s i : Value) (wr : World) : Prop := ∃ (k : Nat) (v : Value), v = s ∧ k ≤ l.length ∧ i = .int .i64 k ∧ Hid (OOwn wr w.heap.size v (pre ++ (l.take k).filter (fun x => lessB tp x.topic))) ∧ Hid (Below w.heap.size w wr)
theorem OOwn.len {w : World} {base : Nat} {v : Value} {l : List OB} (h : OOwn w base v l) : (l.map OB.cells).length = l.length := List.length_map ..
theorem OOwn.app {w : World} {base : Nat} {v : Value} {l : List OB} {x : OB} (h : ROwn 31 2 w base v (l.map OB.cells ++ [x.cells])) : OOwn w base v (l ++ [x]) := by
 show ROwn _ _ _ _ _ ((l ++ [x]).map OB.cells)
 rw [List.map_append]
 exact h
end Go.Proofs.YtmlbdblnmbmnpaaGreatDoor
namespace Go.Proofs.YtmlbdblnmbmnpaaGreatDoor
open Go.RowKit Tryst
set_option maxHeartbeats 4000000
set_option maxRecDepth 20000
end Go.Proofs.YtmlbdblnmbmnpaaGreatDoor
