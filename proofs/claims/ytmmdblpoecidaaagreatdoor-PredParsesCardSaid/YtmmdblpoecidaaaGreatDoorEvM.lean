/- The walk of event.May. -/
import Derived.Test.YtmmdblpoecidaaaGreatDoorProg
import Derived.WalkKit
import Derived.WalkSpells
import Derived.WalkLawsBesides
import Derived.Lib.Hide
import Derived.Deep.RegionWith
import Derived.Deep.Cut
import Derived.Test.YtmmdblpoecidaaaGreatDoorNmA
import Derived.Test.YtmmdblpoecidaaaGreatDoorFldG
import Derived.Test.YtmmdblpoecidaaaGreatDoorNumV
set_option linter.unusedVariables false
set_option linter.unusedSimpArgs false
namespace Tryst2
open Go Go.RowKit
@[go_sem] theorem boolOf_undef : boolOf undef = none := rfl
end Tryst2
namespace Go.Proofs.YtmmdblpoecidaaaGreatDoor
open Go.RowKit Tryst
set_option maxHeartbeats 400000
set_option maxRecDepth 20000
def prevN (l : List FB) (k : Nat) : Option (List UInt8) := if k = 0 then none else (l[k - 1]?).map (fun f => f.name.data.toList)
theorem vMay_eq (f : FB) : vMay f.fld.v = V.mayB ⟨f.num, f.n, f.s.data.toList⟩ := rfl
theorem okF_step {l : List FB} {k : Nat} (hk : k < l.length) : okF (prevN l k) ((l.drop k).map FB.fld) = (fieldB l[k].name.data.toList && V.mayB ⟨l[k].num, l[k].n, l[k].s.data.toList⟩ && (match prevN l k with | none => true | some q => Op.bytesLess q l[k].name.data.toList) && okF (prevN l (k + 1)) ((l.drop (k + 1)).map FB.fld)) := by
  rw [List.drop_eq_getElem_cons hk, List.map_cons]
  have e : prevN l (k + 1) = some l[k].name.data.toList := by
    unfold prevN
    rw [if_neg (by omega), Nat.add_sub_cancel, List.getElem?_eq_getElem hk]; rfl
  rw [e]
  cases prevN l k <;> rfl
def evMay (t p : ByteArray) (q : Int) (l : List FB) : Bool := topicB t.data.toList && fieldB p.data.toList && decide (1 ≤ q) && decide (l.length ≤ 8) && okF none (l.map FB.fld)
def MayRel (w W : World) (l : List FB) (i : Value) (wr : World) : Prop := ∃ k : Nat, k ≤ l.length ∧ i = .int .i64 k ∧ Hid (okF none (l.map FB.fld) = okF (prevN l k) ((l.drop k).map FB.fld)) ∧ Hid (Below W.heap.size W wr) ∧ W.heap.size ≤ wr.heap.size
end Go.Proofs.YtmmdblpoecidaaaGreatDoor
namespace Go.Proofs.YtmmdblpoecidaaaGreatDoor
open Go.RowKit Tryst
set_option maxHeartbeats 400000
set_option maxRecDepth 20000
end Go.Proofs.YtmmdblpoecidaaaGreatDoor
