/- A world for the witness: the tables of unicode/utf8 hold what they hold. -/
import Derived.Test.YtmlbdblnmbmnpaaGreatDoorRows
import Derived.WalkKit
import Derived.ProofKit
import Derived.Deep.DeepHandedRow
import Derived.Lib.LaidTab
set_option linter.unusedVariables false
set_option linter.unusedSimpArgs false
namespace Go.Proofs.YtmlbdblnmbmnpaaGreatDoor
open Go.ChangeShapes Go.WideShapes Go.ChangeAt Go.RowKit
theorem own : ownKnob Tryz.prog.godebug = none := by kernel_rfl
def datInt : DataW Unit → Value
 | .lit (.int k z) => .int k z
 | _ => undef
def datInts : DataW Unit → Array Value
 | .agg l => (l.flatMap fun d => match d with
  | .agg m => m.map datInt
  | x => [datInt x]).toArray
 | _ => #[]
def setTb (cs : Array Value) : Obj → Obj
 | .cells _ t frozen => .cells cs t frozen
 | o => o
/-- A WORLD FOR THE WITNESS: the settled one, the tables holding what their initialisers lay. -/
noncomputable def laidWorld (os : Os) : World :=
 { World.holding Tryz.prog os ⟨#[], #[], []⟩ with heap := ((World.holding Tryz.prog os ⟨#[], #[], []⟩).heap.modify 2 (setTb (datInts Rows.laid_unicode_utf8_acceptRanges))).modify 1 (setTb (datInts Rows.laid_unicode_utf8_first)) }
end Go.Proofs.YtmlbdblnmbmnpaaGreatDoor
