/- Few of an event: its fields in a slice of its own. -/
import Derived.Test.YtmmdblpoecidaaaGreatDoorProg
import Derived.WalkKit
import Derived.WalkSpells
import Derived.WalkLawsBesides
import Derived.Lib.Hide
import Derived.Deep.RegionWith
import Derived.Deep.Cut
import Derived.Test.YtmmdblpoecidaaaGreatDoorEv3
set_option linter.unusedVariables false
set_option linter.unusedSimpArgs false
namespace Go.Proofs.YtmmdblpoecidaaaGreatDoor
open Go.RowKit Tryst
set_option maxHeartbeats 400000
set_option maxRecDepth 20000
theorem fown_lower {e : TypeId} {w : World} {base base' : Nat} {v : Value} {l : List FB} (h : FOwn e w base v l) (hb : base' ≤ base) : FOwn e w base' v l := by
  refine ⟨h.1, ?_⟩
  rcases h.2 with h2 | ⟨g, cap, cur, h1, h2, h3, h4⟩
  · exact .inl h2
  · exact .inr ⟨g, cap, cur, h1, by omega, h3, h4⟩
/-- .. its fields in a slice of the call's own -/
def EvRO (w : World) (t p : ByteArray) (q : Int) (l : List FB) (e : Ending) (w' : World) : Prop := ∃ a c, e = .returned (.agg #[.string t, .string p, .int .u64 q, .slice a l.length c]) ∧ FOwn 52 w' w.heap.size (.slice a l.length c) l ∧ Below w.heap.size w w'
end Go.Proofs.YtmmdblpoecidaaaGreatDoor
