/-
  No cell of these rows narrows 'for every input' (looked for: loops, veiled, ifaces, maps, wideKeys, modest, calm, conditions, laid).
  DERIVED. THE GIVEN ROWS OF THIS SEAT. 6 by the template 'for every input the law returns true; each argument reads behind the call as it read before'; 0 by the template 'total and deterministic' (their statements: YtcbnehplilpidaaTotals.lean).
  GIVEN WITH THE SEED: the statements are not yours to turn. If you find one false, say at which input.
  Laid BY PROGRAM, IN A SANDBOX (cutbox-rows.mjs): the forced cells as the released guide's own fill.sh prints them over the translation 98caa000a98d5a7a… (all of the seat's roots in one cut). By AI agents, Wed Nov 11 2026. No macro, syntax, notation, axiom, sorry.
-/
import Derived.Test.YtcbnehplilpidaaChecked
import GoSem.Claim
import GoSem.ClaimJoined
import GoSem.ClaimMapViews
import Derived.JoinedTies
import Derived.KernelRfl
namespace Go.Proofs.Ytcbnehplilpidaa
/- THE CELL 'sum', in the pinned program and in every row, IS THE sha256 OF THE DUMP (.gsa) THAT YtcbnehplilpidaaProg.lean LOADS. Nothing in Lean hashes anything: it is a label: what it is worth is what the hold of that sum in a sandbox is worth. -/
noncomputable def Try.pinned : Pinned := { name := "ytcbnehplilpidaa", sum := "98caa000a98d5a7af124e27fd6ce80886033401d32b22923f770f3b4a2083ffe", checked := Try.checked }
namespace Rows
def none {H : Type} : Left H := { results := [], args := [] }

/-- 'trystlaw04.EventBack': WHATEVER THE INPUT: true; the input reads as it did. -/
def eventBackSpec : ChangeSpec := { name := "eventBack", fn := fun _ => fun
  | [d] => { results := [.lit (.bool true)], args := [d] }
  | _ => none }
def eventBackRow : OpenClaim := { program := "ytcbnehplilpidaa", sum := "98caa000a98d5a7af124e27fd6ce80886033401d32b22923f770f3b4a2083ffe", func := "tryst/trystlaw04.EventBack", spec := "eventBack", inPlace := ["internal/bytealg.IndexByteString", "internal/bytealg.IndexString", "internal/abi.NoEscape"], unfollowed := true, recurses := true, named := ["internal/bytealg.MaxLen"], apart := false }
def EventBackSaid : Prop := eventBackRow.holds Try.pinned (OpenSpec.ofChange eventBackSpec)

/-- ITS FALSE NEIGHBOUR: 'it returns false'. Refute it at one input. -/
def eventBackWrong : ChangeSpec := { name := "eventBack", fn := fun _ => fun
  | [d] => { results := [.lit (.bool false)], args := [d] }
  | _ => none }
def EventBackWrongFalsely : Prop := eventBackRow.holds Try.pinned (OpenSpec.ofChange eventBackWrong)

/-- 'trystlaw04.EventLays': WHATEVER THE INPUT: true; the input reads as it did. -/
def eventLaysSpec : ChangeSpec := { name := "eventLays", fn := fun _ => fun
  | [d1, d2, d3] => { results := [.lit (.bool true)], args := [d1, d2, d3] }
  | _ => none }
def eventLaysRow : OpenClaim := { program := "ytcbnehplilpidaa", sum := "98caa000a98d5a7af124e27fd6ce80886033401d32b22923f770f3b4a2083ffe", func := "tryst/trystlaw04.EventLays", spec := "eventLays", inPlace := ["internal/bytealg.IndexByteString", "internal/bytealg.IndexString", "internal/abi.NoEscape"], unfollowed := true, recurses := true, named := ["internal/bytealg.MaxLen"], apart := false }
def EventLaysSaid : Prop := eventLaysRow.holds Try.pinned (OpenSpec.ofChange eventLaysSpec)

/-- ITS FALSE NEIGHBOUR: 'it returns false'. Refute it at one input. -/
def eventLaysWrong : ChangeSpec := { name := "eventLays", fn := fun _ => fun
  | [d1, d2, d3] => { results := [.lit (.bool false)], args := [d1, d2, d3] }
  | _ => none }
def EventLaysWrongFalsely : Prop := eventLaysRow.holds Try.pinned (OpenSpec.ofChange eventLaysWrong)

/-- 'trystlaw12.TopicReads': WHATEVER THE INPUT: true; the input reads as it did. -/
def topicReadsSpec : ChangeSpec := { name := "topicReads", fn := fun _ => fun
  | [d1, d2, d3] => { results := [.lit (.bool true)], args := [d1, d2, d3] }
  | _ => none }
def topicReadsRow : OpenClaim := { program := "ytcbnehplilpidaa", sum := "98caa000a98d5a7af124e27fd6ce80886033401d32b22923f770f3b4a2083ffe", func := "tryst/trystlaw12.TopicReads", spec := "topicReads", inPlace := ["internal/bytealg.IndexByteString", "internal/bytealg.IndexString", "internal/abi.NoEscape", "slices.overlaps[tryst/api.Topic]"], unfollowed := true, recurses := true, named := ["internal/bytealg.MaxLen"], apart := false }
def TopicReadsSaid : Prop := topicReadsRow.holds Try.pinned (OpenSpec.ofChange topicReadsSpec)

/-- ITS FALSE NEIGHBOUR: 'it returns false'. Refute it at one input. -/
def topicReadsWrong : ChangeSpec := { name := "topicReads", fn := fun _ => fun
  | [d1, d2, d3] => { results := [.lit (.bool false)], args := [d1, d2, d3] }
  | _ => none }
def TopicReadsWrongFalsely : Prop := topicReadsRow.holds Try.pinned (OpenSpec.ofChange topicReadsWrong)

/-- 'trystlaw12.TopicAppends': WHATEVER THE INPUT: true; the input reads as it did. -/
def topicAppendsSpec : ChangeSpec := { name := "topicAppends", fn := fun _ => fun
  | [d1, d2, d3] => { results := [.lit (.bool true)], args := [d1, d2, d3] }
  | _ => none }
def topicAppendsRow : OpenClaim := { program := "ytcbnehplilpidaa", sum := "98caa000a98d5a7af124e27fd6ce80886033401d32b22923f770f3b4a2083ffe", func := "tryst/trystlaw12.TopicAppends", spec := "topicAppends", inPlace := ["internal/bytealg.IndexByteString", "internal/bytealg.IndexString", "internal/abi.NoEscape", "slices.overlaps[tryst/api.Topic]"], unfollowed := true, recurses := true, named := ["internal/bytealg.MaxLen"], apart := false }
def TopicAppendsSaid : Prop := topicAppendsRow.holds Try.pinned (OpenSpec.ofChange topicAppendsSpec)

/-- ITS FALSE NEIGHBOUR: 'it returns false'. Refute it at one input. -/
def topicAppendsWrong : ChangeSpec := { name := "topicAppends", fn := fun _ => fun
  | [d1, d2, d3] => { results := [.lit (.bool false)], args := [d1, d2, d3] }
  | _ => none }
def TopicAppendsWrongFalsely : Prop := topicAppendsRow.holds Try.pinned (OpenSpec.ofChange topicAppendsWrong)

/-- 'trystlaw12.TopicKeeps': WHATEVER THE INPUT: true; the input reads as it did. -/
def topicKeepsSpec : ChangeSpec := { name := "topicKeeps", fn := fun _ => fun
  | [d1, d2] => { results := [.lit (.bool true)], args := [d1, d2] }
  | _ => none }
def topicKeepsRow : OpenClaim := { program := "ytcbnehplilpidaa", sum := "98caa000a98d5a7af124e27fd6ce80886033401d32b22923f770f3b4a2083ffe", func := "tryst/trystlaw12.TopicKeeps", spec := "topicKeeps", inPlace := ["internal/bytealg.IndexByteString", "internal/bytealg.IndexString", "internal/abi.NoEscape", "slices.overlaps[tryst/api.Topic]"], unfollowed := true, recurses := true, named := ["internal/bytealg.MaxLen"], apart := false }
def TopicKeepsSaid : Prop := topicKeepsRow.holds Try.pinned (OpenSpec.ofChange topicKeepsSpec)

/-- ITS FALSE NEIGHBOUR: 'it returns false'. Refute it at one input. -/
def topicKeepsWrong : ChangeSpec := { name := "topicKeeps", fn := fun _ => fun
  | [d1, d2] => { results := [.lit (.bool false)], args := [d1, d2] }
  | _ => none }
def TopicKeepsWrongFalsely : Prop := topicKeepsRow.holds Try.pinned (OpenSpec.ofChange topicKeepsWrong)

/-- 'trystlaw12.TopicBounds': WHATEVER THE INPUT: true; the input reads as it did. -/
def topicBoundsSpec : ChangeSpec := { name := "topicBounds", fn := fun _ => fun
  | [d1, d2] => { results := [.lit (.bool true)], args := [d1, d2] }
  | _ => none }
def topicBoundsRow : OpenClaim := { program := "ytcbnehplilpidaa", sum := "98caa000a98d5a7af124e27fd6ce80886033401d32b22923f770f3b4a2083ffe", func := "tryst/trystlaw12.TopicBounds", spec := "topicBounds", inPlace := ["internal/bytealg.IndexByteString", "internal/bytealg.IndexString", "internal/abi.NoEscape", "slices.overlaps[tryst/api.Topic]"], unfollowed := true, recurses := true, named := ["internal/bytealg.MaxLen"], apart := false }
def TopicBoundsSaid : Prop := topicBoundsRow.holds Try.pinned (OpenSpec.ofChange topicBoundsSpec)

/-- ITS FALSE NEIGHBOUR: 'it returns false'. Refute it at one input. -/
def topicBoundsWrong : ChangeSpec := { name := "topicBounds", fn := fun _ => fun
  | [d1, d2] => { results := [.lit (.bool false)], args := [d1, d2] }
  | _ => none }
def TopicBoundsWrongFalsely : Prop := topicBoundsRow.holds Try.pinned (OpenSpec.ofChange topicBoundsWrong)

/- THE SECOND FORM. 'bulk': how many values and letters a reading holds, each counted each time it is reached (what is shared counts as often as it is met; a slice's spare places count too). A statement '..UptoSaid' is the law's where the arguments, and the package variables that the reading takes, are together of bulk at most 1048576: NARROWER than '..Said'. Prove '..Said' where nothing that the law and all that it calls make is longer than what came in: it says more and counts as full. Else prove '..UptoSaid'. A law counts once. -/
mutual
def uptoBulk {H : Type} : DataW H → Nat
  | .lit (.string bytes) => bytes.length + 1
  | .lit _ => 1
  | .nil => 1
  | .ptr d => uptoBulk d + 1
  | .slice elems spare => uptoBulkAll elems + uptoBulkAll spare + 1
  | .agg parts => uptoBulkAll parts + 1
  | .iface _ d => uptoBulk d + 1
  | .map entries => uptoBulkEntries entries + 1
  | .held _ => 1
def uptoBulkAll {H : Type} : List (DataW H) → Nat
  | [] => 0
  | d :: r => uptoBulk d + uptoBulkAll r
def uptoBulkEntries {H : Type} : List (Lit × DataW H) → Nat
  | [] => 0
  | x :: r => uptoBulkEntry x + uptoBulkEntries r
def uptoBulkEntry {H : Type} : Lit × DataW H → Nat
  | (.string bytes, d) => bytes.length + uptoBulk d + 1
  | (_, d) => uptoBulk d + 1
 end
def uptoSmall : (H : Type) → List (DataW H) → Bool := fun _ ds => decide (uptoBulkAll ds ≤ 1048576)
def OpenSpec.upto (s : _root_.Go.ChangeSpec) : _root_.Go.OpenSpec := { _root_.Go.OpenSpec.ofChange s with cond := some uptoSmall }

/-- 'trystlaw04.EventBack', WHERE WHAT IT READS IS OF BULK AT MOST 1048576: true; the input reads as it did. -/
def eventBackUptoRow : OpenClaim := { program := "ytcbnehplilpidaa", sum := "98caa000a98d5a7af124e27fd6ce80886033401d32b22923f770f3b4a2083ffe", func := "tryst/trystlaw04.EventBack", spec := "eventBack", inPlace := ["internal/bytealg.IndexByteString", "internal/bytealg.IndexString", "internal/abi.NoEscape"], unfollowed := true, recurses := true, named := ["internal/bytealg.MaxLen"], apart := false, narrowed := true }
def EventBackUptoSaid : Prop := eventBackUptoRow.holds Try.pinned (OpenSpec.upto eventBackSpec)

/-- 'trystlaw04.EventLays', WHERE WHAT IT READS IS OF BULK AT MOST 1048576: true; the input reads as it did. -/
def eventLaysUptoRow : OpenClaim := { program := "ytcbnehplilpidaa", sum := "98caa000a98d5a7af124e27fd6ce80886033401d32b22923f770f3b4a2083ffe", func := "tryst/trystlaw04.EventLays", spec := "eventLays", inPlace := ["internal/bytealg.IndexByteString", "internal/bytealg.IndexString", "internal/abi.NoEscape"], unfollowed := true, recurses := true, named := ["internal/bytealg.MaxLen"], apart := false, narrowed := true }
def EventLaysUptoSaid : Prop := eventLaysUptoRow.holds Try.pinned (OpenSpec.upto eventLaysSpec)

/-- 'trystlaw12.TopicReads', WHERE WHAT IT READS IS OF BULK AT MOST 1048576: true; the input reads as it did. -/
def topicReadsUptoRow : OpenClaim := { program := "ytcbnehplilpidaa", sum := "98caa000a98d5a7af124e27fd6ce80886033401d32b22923f770f3b4a2083ffe", func := "tryst/trystlaw12.TopicReads", spec := "topicReads", inPlace := ["internal/bytealg.IndexByteString", "internal/bytealg.IndexString", "internal/abi.NoEscape", "slices.overlaps[tryst/api.Topic]"], unfollowed := true, recurses := true, named := ["internal/bytealg.MaxLen"], apart := false, narrowed := true }
def TopicReadsUptoSaid : Prop := topicReadsUptoRow.holds Try.pinned (OpenSpec.upto topicReadsSpec)

/-- 'trystlaw12.TopicAppends', WHERE WHAT IT READS IS OF BULK AT MOST 1048576: true; the input reads as it did. -/
def topicAppendsUptoRow : OpenClaim := { program := "ytcbnehplilpidaa", sum := "98caa000a98d5a7af124e27fd6ce80886033401d32b22923f770f3b4a2083ffe", func := "tryst/trystlaw12.TopicAppends", spec := "topicAppends", inPlace := ["internal/bytealg.IndexByteString", "internal/bytealg.IndexString", "internal/abi.NoEscape", "slices.overlaps[tryst/api.Topic]"], unfollowed := true, recurses := true, named := ["internal/bytealg.MaxLen"], apart := false, narrowed := true }
def TopicAppendsUptoSaid : Prop := topicAppendsUptoRow.holds Try.pinned (OpenSpec.upto topicAppendsSpec)

/-- 'trystlaw12.TopicKeeps', WHERE WHAT IT READS IS OF BULK AT MOST 1048576: true; the input reads as it did. -/
def topicKeepsUptoRow : OpenClaim := { program := "ytcbnehplilpidaa", sum := "98caa000a98d5a7af124e27fd6ce80886033401d32b22923f770f3b4a2083ffe", func := "tryst/trystlaw12.TopicKeeps", spec := "topicKeeps", inPlace := ["internal/bytealg.IndexByteString", "internal/bytealg.IndexString", "internal/abi.NoEscape", "slices.overlaps[tryst/api.Topic]"], unfollowed := true, recurses := true, named := ["internal/bytealg.MaxLen"], apart := false, narrowed := true }
def TopicKeepsUptoSaid : Prop := topicKeepsUptoRow.holds Try.pinned (OpenSpec.upto topicKeepsSpec)

/-- 'trystlaw12.TopicBounds', WHERE WHAT IT READS IS OF BULK AT MOST 1048576: true; the input reads as it did. -/
def topicBoundsUptoRow : OpenClaim := { program := "ytcbnehplilpidaa", sum := "98caa000a98d5a7af124e27fd6ce80886033401d32b22923f770f3b4a2083ffe", func := "tryst/trystlaw12.TopicBounds", spec := "topicBounds", inPlace := ["internal/bytealg.IndexByteString", "internal/bytealg.IndexString", "internal/abi.NoEscape", "slices.overlaps[tryst/api.Topic]"], unfollowed := true, recurses := true, named := ["internal/bytealg.MaxLen"], apart := false, narrowed := true }
def TopicBoundsUptoSaid : Prop := topicBoundsUptoRow.holds Try.pinned (OpenSpec.upto topicBoundsSpec)

end Rows
end Go.Proofs.Ytcbnehplilpidaa
