/- Guarded operations in a region that draws its order. -/
import Derived.Test.YtfohdjgalmodbaaDraw2
set_option linter.unusedVariables false
set_option linter.unusedSimpArgs false
namespace Tryst2
open Go Go.RowKit
@[go_sem] theorem boolOf_bool (b : Bool) : boolOf (.bool b) = some b := rfl
theorem wantedV_some (dsts : List (Option Nat)) (tv : Nat → Value) (j : Nat) (want : Bool) : wantedV dsts tv (some (j, want)) = (match (dsts[j]?).bind id with | some d => boolOf (tv d) == some want | none => none == some want) := rfl
end Tryst2
