/-
  No cell of these rows narrows 'for every input' (looked for: loops, veiled, ifaces, maps, wideKeys, modest, calm, conditions, laid).
  DERIVED. THE GIVEN ROWS OF THIS SEAT. 6 by the template 'for every input the law returns true; each argument reads behind the call as it read before'; 0 by the template 'total and deterministic' (their statements: YtfohdjgalmodbaaTotals.lean).
  GIVEN WITH THE SEED: the statements are not yours to turn. If you find one false, say at which input.
  Laid BY PROGRAM, IN A SANDBOX (cutbox-rows.mjs): the forced cells as the released guide's own fill.sh prints them over the translation 3d9e2be91c4ccb49… (all of the seat's roots in one cut). By AI agents, Wed Nov 11 2026. No macro, syntax, notation, axiom, sorry.
-/
import Derived.Test.YtfohdjgalmodbaaChecked
import GoSem.Claim
import GoSem.ClaimJoined
import GoSem.ClaimMapViews
import Derived.JoinedTies
import Derived.KernelRfl
namespace Go.Proofs.Ytfohdjgalmodbaa
/- THE CELL 'sum', in the pinned program and in every row, IS THE sha256 OF THE DUMP (.gsa) THAT YtfohdjgalmodbaaProg.lean LOADS. Nothing in Lean hashes anything: it is a label: what it is worth is what the hold of that sum in a sandbox is worth. -/
noncomputable def Try.pinned : Pinned := { name := "ytfohdjgalmodbaa", sum := "3d9e2be91c4ccb49e198cf56ac60d272a4a0923bad730c36ee93f84cd7d944e2", checked := Try.checked }
namespace Rows
def none {H : Type} : Left H := { results := [], args := [] }

/-- 'trystlaw04.EventPuts': WHATEVER THE INPUT: true; the input reads as it did. -/
def eventPutsSpec : ChangeSpec := { name := "eventPuts", fn := fun _ => fun
  | [d1, d2, d3] => { results := [.lit (.bool true)], args := [d1, d2, d3] }
  | _ => none }
def eventPutsRow : OpenClaim := { program := "ytfohdjgalmodbaa", sum := "3d9e2be91c4ccb49e198cf56ac60d272a4a0923bad730c36ee93f84cd7d944e2", func := "tryst/trystlaw04.EventPuts", spec := "eventPuts", inPlace := ["internal/bytealg.IndexByteString", "internal/bytealg.IndexString", "internal/abi.NoEscape"], unfollowed := true, recurses := true, named := ["internal/bytealg.MaxLen"], apart := false }
def EventPutsSaid : Prop := eventPutsRow.holds Try.pinned (OpenSpec.ofChange eventPutsSpec)

/-- ITS FALSE NEIGHBOUR: 'it returns false'. Refute it at one input. -/
def eventPutsWrong : ChangeSpec := { name := "eventPuts", fn := fun _ => fun
  | [d1, d2, d3] => { results := [.lit (.bool false)], args := [d1, d2, d3] }
  | _ => none }
def EventPutsWrongFalsely : Prop := eventPutsRow.holds Try.pinned (OpenSpec.ofChange eventPutsWrong)

/-- 'trystlaw04.EventBack': WHATEVER THE INPUT: true; the input reads as it did. -/
def eventBackSpec : ChangeSpec := { name := "eventBack", fn := fun _ => fun
  | [d] => { results := [.lit (.bool true)], args := [d] }
  | _ => none }
def eventBackRow : OpenClaim := { program := "ytfohdjgalmodbaa", sum := "3d9e2be91c4ccb49e198cf56ac60d272a4a0923bad730c36ee93f84cd7d944e2", func := "tryst/trystlaw04.EventBack", spec := "eventBack", inPlace := ["internal/bytealg.IndexByteString", "internal/bytealg.IndexString", "internal/abi.NoEscape"], unfollowed := true, recurses := true, named := ["internal/bytealg.MaxLen"], apart := false }
def EventBackSaid : Prop := eventBackRow.holds Try.pinned (OpenSpec.ofChange eventBackSpec)

/-- ITS FALSE NEIGHBOUR: 'it returns false'. Refute it at one input. -/
def eventBackWrong : ChangeSpec := { name := "eventBack", fn := fun _ => fun
  | [d] => { results := [.lit (.bool false)], args := [d] }
  | _ => none }
def EventBackWrongFalsely : Prop := eventBackRow.holds Try.pinned (OpenSpec.ofChange eventBackWrong)

/-- 'trystlaw04.EventApart': WHATEVER THE INPUT: true; the input reads as it did. -/
def eventApartSpec : ChangeSpec := { name := "eventApart", fn := fun _ => fun
  | [d1, d2] => { results := [.lit (.bool true)], args := [d1, d2] }
  | _ => none }
def eventApartRow : OpenClaim := { program := "ytfohdjgalmodbaa", sum := "3d9e2be91c4ccb49e198cf56ac60d272a4a0923bad730c36ee93f84cd7d944e2", func := "tryst/trystlaw04.EventApart", spec := "eventApart", inPlace := ["internal/bytealg.IndexByteString", "internal/bytealg.IndexString", "internal/abi.NoEscape"], unfollowed := true, recurses := true, named := ["internal/bytealg.MaxLen"], apart := false }
def EventApartSaid : Prop := eventApartRow.holds Try.pinned (OpenSpec.ofChange eventApartSpec)

/-- ITS FALSE NEIGHBOUR: 'it returns false'. Refute it at one input. -/
def eventApartWrong : ChangeSpec := { name := "eventApart", fn := fun _ => fun
  | [d1, d2] => { results := [.lit (.bool false)], args := [d1, d2] }
  | _ => none }
def EventApartWrongFalsely : Prop := eventApartRow.holds Try.pinned (OpenSpec.ofChange eventApartWrong)

/-- 'trystlaw04.EventShort': WHATEVER THE INPUT: true; the input reads as it did. -/
def eventShortSpec : ChangeSpec := { name := "eventShort", fn := fun _ => fun
  | [d1, d2] => { results := [.lit (.bool true)], args := [d1, d2] }
  | _ => none }
def eventShortRow : OpenClaim := { program := "ytfohdjgalmodbaa", sum := "3d9e2be91c4ccb49e198cf56ac60d272a4a0923bad730c36ee93f84cd7d944e2", func := "tryst/trystlaw04.EventShort", spec := "eventShort", inPlace := ["internal/bytealg.IndexByteString", "internal/bytealg.IndexString", "internal/abi.NoEscape"], unfollowed := true, recurses := true, named := ["internal/bytealg.MaxLen"], apart := false }
def EventShortSaid : Prop := eventShortRow.holds Try.pinned (OpenSpec.ofChange eventShortSpec)

/-- ITS FALSE NEIGHBOUR: 'it returns false'. Refute it at one input. -/
def eventShortWrong : ChangeSpec := { name := "eventShort", fn := fun _ => fun
  | [d1, d2] => { results := [.lit (.bool false)], args := [d1, d2] }
  | _ => none }
def EventShortWrongFalsely : Prop := eventShortRow.holds Try.pinned (OpenSpec.ofChange eventShortWrong)

/-- 'trystlaw04.EventLays': WHATEVER THE INPUT: true; the input reads as it did. -/
def eventLaysSpec : ChangeSpec := { name := "eventLays", fn := fun _ => fun
  | [d1, d2, d3] => { results := [.lit (.bool true)], args := [d1, d2, d3] }
  | _ => none }
def eventLaysRow : OpenClaim := { program := "ytfohdjgalmodbaa", sum := "3d9e2be91c4ccb49e198cf56ac60d272a4a0923bad730c36ee93f84cd7d944e2", func := "tryst/trystlaw04.EventLays", spec := "eventLays", inPlace := ["internal/bytealg.IndexByteString", "internal/bytealg.IndexString", "internal/abi.NoEscape"], unfollowed := true, recurses := true, named := ["internal/bytealg.MaxLen"], apart := false }
def EventLaysSaid : Prop := eventLaysRow.holds Try.pinned (OpenSpec.ofChange eventLaysSpec)

/-- ITS FALSE NEIGHBOUR: 'it returns false'. Refute it at one input. -/
def eventLaysWrong : ChangeSpec := { name := "eventLays", fn := fun _ => fun
  | [d1, d2, d3] => { results := [.lit (.bool false)], args := [d1, d2, d3] }
  | _ => none }
def EventLaysWrongFalsely : Prop := eventLaysRow.holds Try.pinned (OpenSpec.ofChange eventLaysWrong)

/-- 'trystlaw04.EventTurns': WHATEVER THE INPUT: true; the input reads as it did. -/
def eventTurnsSpec : ChangeSpec := { name := "eventTurns", fn := fun _ => fun
  | [d] => { results := [.lit (.bool true)], args := [d] }
  | _ => none }
def eventTurnsRow : OpenClaim := { program := "ytfohdjgalmodbaa", sum := "3d9e2be91c4ccb49e198cf56ac60d272a4a0923bad730c36ee93f84cd7d944e2", func := "tryst/trystlaw04.EventTurns", spec := "eventTurns", inPlace := ["internal/bytealg.IndexByteString", "internal/bytealg.IndexString", "internal/abi.NoEscape"], unfollowed := true, recurses := true, named := ["internal/bytealg.MaxLen"], apart := false }
def EventTurnsSaid : Prop := eventTurnsRow.holds Try.pinned (OpenSpec.ofChange eventTurnsSpec)

/-- ITS FALSE NEIGHBOUR: 'it returns false'. Refute it at one input. -/
def eventTurnsWrong : ChangeSpec := { name := "eventTurns", fn := fun _ => fun
  | [d] => { results := [.lit (.bool false)], args := [d] }
  | _ => none }
def EventTurnsWrongFalsely : Prop := eventTurnsRow.holds Try.pinned (OpenSpec.ofChange eventTurnsWrong)

/- THE SECOND FORM. 'bulk': how many values and letters a reading holds, each counted each time it is reached (what is shared counts as often as it is met; a slice's spare places count too). A statement '..UptoSaid' is the law's where the arguments, and the package variables that the reading takes, are together of bulk at most 1048576: NARROWER than '..Said'. Prove '..Said' where nothing that the law and all that it calls make is longer than what came in: it says more and counts as full. Else prove '..UptoSaid'. A law counts once. -/
mutual
def uptoBulk {H : Type} : DataW H → Nat
  | .lit (.string bytes) => bytes.length + 1
  | .lit _ => 1
  | .nil => 1
  | .ptr d => uptoBulk d + 1
  | .slice elems spare => uptoBulkAll elems + uptoBulkAll spare + 1
  | .agg parts => uptoBulkAll parts + 1
  | .iface _ d => uptoBulk d + 1
  | .map entries => uptoBulkEntries entries + 1
  | .held _ => 1
def uptoBulkAll {H : Type} : List (DataW H) → Nat
  | [] => 0
  | d :: r => uptoBulk d + uptoBulkAll r
def uptoBulkEntries {H : Type} : List (Lit × DataW H) → Nat
  | [] => 0
  | x :: r => uptoBulkEntry x + uptoBulkEntries r
def uptoBulkEntry {H : Type} : Lit × DataW H → Nat
  | (.string bytes, d) => bytes.length + uptoBulk d + 1
  | (_, d) => uptoBulk d + 1
 end
def uptoSmall : (H : Type) → List (DataW H) → Bool := fun _ ds => decide (uptoBulkAll ds ≤ 1048576)
def OpenSpec.upto (s : _root_.Go.ChangeSpec) : _root_.Go.OpenSpec := { _root_.Go.OpenSpec.ofChange s with cond := some uptoSmall }

/-- 'trystlaw04.EventPuts', WHERE WHAT IT READS IS OF BULK AT MOST 1048576: true; the input reads as it did. -/
def eventPutsUptoRow : OpenClaim := { program := "ytfohdjgalmodbaa", sum := "3d9e2be91c4ccb49e198cf56ac60d272a4a0923bad730c36ee93f84cd7d944e2", func := "tryst/trystlaw04.EventPuts", spec := "eventPuts", inPlace := ["internal/bytealg.IndexByteString", "internal/bytealg.IndexString", "internal/abi.NoEscape"], unfollowed := true, recurses := true, named := ["internal/bytealg.MaxLen"], apart := false, narrowed := true }
def EventPutsUptoSaid : Prop := eventPutsUptoRow.holds Try.pinned (OpenSpec.upto eventPutsSpec)

/-- 'trystlaw04.EventBack', WHERE WHAT IT READS IS OF BULK AT MOST 1048576: true; the input reads as it did. -/
def eventBackUptoRow : OpenClaim := { program := "ytfohdjgalmodbaa", sum := "3d9e2be91c4ccb49e198cf56ac60d272a4a0923bad730c36ee93f84cd7d944e2", func := "tryst/trystlaw04.EventBack", spec := "eventBack", inPlace := ["internal/bytealg.IndexByteString", "internal/bytealg.IndexString", "internal/abi.NoEscape"], unfollowed := true, recurses := true, named := ["internal/bytealg.MaxLen"], apart := false, narrowed := true }
def EventBackUptoSaid : Prop := eventBackUptoRow.holds Try.pinned (OpenSpec.upto eventBackSpec)

/-- 'trystlaw04.EventApart', WHERE WHAT IT READS IS OF BULK AT MOST 1048576: true; the input reads as it did. -/
def eventApartUptoRow : OpenClaim := { program := "ytfohdjgalmodbaa", sum := "3d9e2be91c4ccb49e198cf56ac60d272a4a0923bad730c36ee93f84cd7d944e2", func := "tryst/trystlaw04.EventApart", spec := "eventApart", inPlace := ["internal/bytealg.IndexByteString", "internal/bytealg.IndexString", "internal/abi.NoEscape"], unfollowed := true, recurses := true, named := ["internal/bytealg.MaxLen"], apart := false, narrowed := true }
def EventApartUptoSaid : Prop := eventApartUptoRow.holds Try.pinned (OpenSpec.upto eventApartSpec)

/-- 'trystlaw04.EventShort', WHERE WHAT IT READS IS OF BULK AT MOST 1048576: true; the input reads as it did. -/
def eventShortUptoRow : OpenClaim := { program := "ytfohdjgalmodbaa", sum := "3d9e2be91c4ccb49e198cf56ac60d272a4a0923bad730c36ee93f84cd7d944e2", func := "tryst/trystlaw04.EventShort", spec := "eventShort", inPlace := ["internal/bytealg.IndexByteString", "internal/bytealg.IndexString", "internal/abi.NoEscape"], unfollowed := true, recurses := true, named := ["internal/bytealg.MaxLen"], apart := false, narrowed := true }
def EventShortUptoSaid : Prop := eventShortUptoRow.holds Try.pinned (OpenSpec.upto eventShortSpec)

/-- 'trystlaw04.EventLays', WHERE WHAT IT READS IS OF BULK AT MOST 1048576: true; the input reads as it did. -/
def eventLaysUptoRow : OpenClaim := { program := "ytfohdjgalmodbaa", sum := "3d9e2be91c4ccb49e198cf56ac60d272a4a0923bad730c36ee93f84cd7d944e2", func := "tryst/trystlaw04.EventLays", spec := "eventLays", inPlace := ["internal/bytealg.IndexByteString", "internal/bytealg.IndexString", "internal/abi.NoEscape"], unfollowed := true, recurses := true, named := ["internal/bytealg.MaxLen"], apart := false, narrowed := true }
def EventLaysUptoSaid : Prop := eventLaysUptoRow.holds Try.pinned (OpenSpec.upto eventLaysSpec)

/-- 'trystlaw04.EventTurns', WHERE WHAT IT READS IS OF BULK AT MOST 1048576: true; the input reads as it did. -/
def eventTurnsUptoRow : OpenClaim := { program := "ytfohdjgalmodbaa", sum := "3d9e2be91c4ccb49e198cf56ac60d272a4a0923bad730c36ee93f84cd7d944e2", func := "tryst/trystlaw04.EventTurns", spec := "eventTurns", inPlace := ["internal/bytealg.IndexByteString", "internal/bytealg.IndexString", "internal/abi.NoEscape"], unfollowed := true, recurses := true, named := ["internal/bytealg.MaxLen"], apart := false, narrowed := true }
def EventTurnsUptoSaid : Prop := eventTurnsUptoRow.holds Try.pinned (OpenSpec.upto eventTurnsSpec)

end Rows
end Go.Proofs.Ytfohdjgalmodbaa
