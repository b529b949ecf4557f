/-
  NARROWER THAN 'FOR EVERY INPUT', by the rows' own cells (each row's printed sentence says how): OffsNexts: loops, laid · OffsReads: loops, laid · OffsPuts: laid · OffsWider: loops, laid · OffsKeys: loops, laid · OffsWants: loops, laid.
  DERIVED. THE GIVEN ROWS OF THIS SEAT. 6 by the template 'for every input the law returns true; each argument reads behind the call as it read before'; 0 by the template 'total and deterministic' (their statements: YtmlbdblnmbmnpaaGreatDoorTotals.lean).
  GIVEN WITH THE SEED: the statements are not yours to turn. If you find one false, say at which input.
  Laid BY PROGRAM, IN A SANDBOX (cutbox-rows.mjs): the forced cells as the released guide's own fill.sh prints them over the translation 29e3a37620b300d3… (all of the seat's roots in one cut). By AI agents, Wed Nov 11 2026. No macro, syntax, notation, axiom, sorry.
-/
import Derived.Test.YtmlbdblnmbmnpaaGreatDoorChecked
import GoSem.PinnedTables
import GoSem.Claim
import GoSem.ClaimJoined
import GoSem.ClaimMapViews
import Derived.JoinedTies
import Derived.KernelRfl
namespace Go.Proofs.YtmlbdblnmbmnpaaGreatDoor
/- THE CELL 'sum', in the pinned program and in every row, IS THE sha256 OF THE DUMP (.gsa) THAT YtmlbdblnmbmnpaaGreatDoorProg.lean LOADS. Nothing in Lean hashes anything: it is a label: what it is worth is what the hold of that sum in a sandbox is worth. -/
noncomputable def Tryz.pinned : Pinned := { name := "ytmlbdblnmbmnpaagreatdoor", sum := "29e3a37620b300d37c1994bb21f3146485c061901b7631bdf9bd19a2b5cf3884", checked := Tryz.checked }
namespace Rows
def none {H : Type} : Left H := { results := [], args := [] }

/- WHAT THE LISTED PACKAGE-LEVEL VARIABLES READ AS WHEN THE CALL BEGINS. Each datum BY PROGRAM (the guide's laid-datum.mjs) off the statement by which the dump's own 'gosem.cut.vars' lays the variable. In a bare row this is a premise. The card (YtmlbdblnmbmnpaaGreatDoorCards.lean) ties it to the program's text. -/
def laid_unicode_utf8_acceptRanges {H : Type} : DataW H := .agg [.agg [.lit (.int .u8 128), .lit (.int .u8 191)], .agg [.lit (.int .u8 160), .lit (.int .u8 191)], .agg [.lit (.int .u8 128), .lit (.int .u8 159)], .agg [.lit (.int .u8 144), .lit (.int .u8 191)], .agg [.lit (.int .u8 128), .lit (.int .u8 143)], .agg [.lit (.int .u8 0), .lit (.int .u8 0)], .agg [.lit (.int .u8 0), .lit (.int .u8 0)], .agg [.lit (.int .u8 0), .lit (.int .u8 0)], .agg [.lit (.int .u8 0), .lit (.int .u8 0)], .agg [.lit (.int .u8 0), .lit (.int .u8 0)], .agg [.lit (.int .u8 0), .lit (.int .u8 0)], .agg [.lit (.int .u8 0), .lit (.int .u8 0)], .agg [.lit (.int .u8 0), .lit (.int .u8 0)], .agg [.lit (.int .u8 0), .lit (.int .u8 0)], .agg [.lit (.int .u8 0), .lit (.int .u8 0)], .agg [.lit (.int .u8 0), .lit (.int .u8 0)]]
/-- One of Go's own tables, pinned by name: the form's constant. -/
def laid_unicode_utf8_first : DataW Unit := Go.Pinned.utf8First

/-- 'trystlaw14.OffsNexts': WHATEVER THE INPUT: true; the input reads as it did. -/
def offsNextsSpec : ChangeSpec := { name := "offsNexts", fn := fun _ => fun
  | [d] => { results := [.lit (.bool true)], args := [d] }
  | _ => none }
def offsNextsRow : OpenClaim := { program := "ytmlbdblnmbmnpaagreatdoor", sum := "29e3a37620b300d37c1994bb21f3146485c061901b7631bdf9bd19a2b5cf3884", func := "tryst/trystlaw14.OffsNexts", spec := "offsNexts", inPlace := ["internal/bytealg.IndexByteString", "internal/bytealg.IndexString", "slices.overlaps[tryst/api.Off]", "internal/bytealg.CountString", "internal/bytealg.abigen_runtime_cmpstring"], unfollowed := true, recurses := true, named := ["internal/bytealg.MaxLen", "unicode/utf8.first", "unicode/utf8.acceptRanges"], loops := true, plainKeys := false, apart := false, laid := [("unicode/utf8.acceptRanges", laid_unicode_utf8_acceptRanges), ("unicode/utf8.first", laid_unicode_utf8_first)] }
def OffsNextsSaid : Prop := offsNextsRow.holds Tryz.pinned (OpenSpec.ofChange offsNextsSpec)

/-- ITS FALSE NEIGHBOUR: 'it returns false'. Refute it at one input. -/
def offsNextsWrong : ChangeSpec := { name := "offsNexts", fn := fun _ => fun
  | [d] => { results := [.lit (.bool false)], args := [d] }
  | _ => none }
def OffsNextsWrongFalsely : Prop := offsNextsRow.holds Tryz.pinned (OpenSpec.ofChange offsNextsWrong)

/-- 'trystlaw14.OffsReads': WHATEVER THE INPUT: true; the input reads as it did. -/
def offsReadsSpec : ChangeSpec := { name := "offsReads", fn := fun _ => fun
  | [d1, d2] => { results := [.lit (.bool true)], args := [d1, d2] }
  | _ => none }
def offsReadsRow : OpenClaim := { program := "ytmlbdblnmbmnpaagreatdoor", sum := "29e3a37620b300d37c1994bb21f3146485c061901b7631bdf9bd19a2b5cf3884", func := "tryst/trystlaw14.OffsReads", spec := "offsReads", inPlace := ["internal/bytealg.IndexByteString", "internal/bytealg.IndexString", "internal/bytealg.CountString", "slices.overlaps[tryst/api.Off]", "internal/bytealg.abigen_runtime_cmpstring"], unfollowed := true, recurses := true, named := ["internal/bytealg.MaxLen", "unicode/utf8.first", "unicode/utf8.acceptRanges"], loops := true, plainKeys := false, apart := false, laid := [("unicode/utf8.acceptRanges", laid_unicode_utf8_acceptRanges), ("unicode/utf8.first", laid_unicode_utf8_first)] }
def OffsReadsSaid : Prop := offsReadsRow.holds Tryz.pinned (OpenSpec.ofChange offsReadsSpec)

/-- ITS FALSE NEIGHBOUR: 'it returns false'. Refute it at one input. -/
def offsReadsWrong : ChangeSpec := { name := "offsReads", fn := fun _ => fun
  | [d1, d2] => { results := [.lit (.bool false)], args := [d1, d2] }
  | _ => none }
def OffsReadsWrongFalsely : Prop := offsReadsRow.holds Tryz.pinned (OpenSpec.ofChange offsReadsWrong)

/-- 'trystlaw14.OffsPuts': WHATEVER THE INPUT: true; the input reads as it did. -/
def offsPutsSpec : ChangeSpec := { name := "offsPuts", fn := fun _ => fun
  | [d1, d2, d3] => { results := [.lit (.bool true)], args := [d1, d2, d3] }
  | _ => none }
def offsPutsRow : OpenClaim := { program := "ytmlbdblnmbmnpaagreatdoor", sum := "29e3a37620b300d37c1994bb21f3146485c061901b7631bdf9bd19a2b5cf3884", func := "tryst/trystlaw14.OffsPuts", spec := "offsPuts", inPlace := ["internal/bytealg.IndexByteString", "internal/bytealg.IndexString", "slices.overlaps[tryst/api.Off]", "internal/bytealg.CountString", "internal/bytealg.abigen_runtime_cmpstring"], unfollowed := true, recurses := true, named := ["internal/bytealg.MaxLen", "unicode/utf8.first", "unicode/utf8.acceptRanges"], plainKeys := false, apart := false, laid := [("unicode/utf8.acceptRanges", laid_unicode_utf8_acceptRanges), ("unicode/utf8.first", laid_unicode_utf8_first)] }
def OffsPutsSaid : Prop := offsPutsRow.holds Tryz.pinned (OpenSpec.ofChange offsPutsSpec)

/-- ITS FALSE NEIGHBOUR: 'it returns false'. Refute it at one input. -/
def offsPutsWrong : ChangeSpec := { name := "offsPuts", fn := fun _ => fun
  | [d1, d2, d3] => { results := [.lit (.bool false)], args := [d1, d2, d3] }
  | _ => none }
def OffsPutsWrongFalsely : Prop := offsPutsRow.holds Tryz.pinned (OpenSpec.ofChange offsPutsWrong)

/-- 'trystlaw14.OffsWider': WHATEVER THE INPUT: true; the input reads as it did. -/
def offsWiderSpec : ChangeSpec := { name := "offsWider", fn := fun _ => fun
  | [d1, d2, d3] => { results := [.lit (.bool true)], args := [d1, d2, d3] }
  | _ => none }
def offsWiderRow : OpenClaim := { program := "ytmlbdblnmbmnpaagreatdoor", sum := "29e3a37620b300d37c1994bb21f3146485c061901b7631bdf9bd19a2b5cf3884", func := "tryst/trystlaw14.OffsWider", spec := "offsWider", inPlace := ["internal/bytealg.IndexByteString", "internal/bytealg.IndexString", "internal/bytealg.CountString", "internal/bytealg.abigen_runtime_cmpstring", "slices.overlaps[tryst/api.Off]"], unfollowed := true, recurses := true, named := ["internal/bytealg.MaxLen", "unicode/utf8.first", "unicode/utf8.acceptRanges"], loops := true, plainKeys := false, apart := false, laid := [("unicode/utf8.acceptRanges", laid_unicode_utf8_acceptRanges), ("unicode/utf8.first", laid_unicode_utf8_first)] }
def OffsWiderSaid : Prop := offsWiderRow.holds Tryz.pinned (OpenSpec.ofChange offsWiderSpec)

/-- ITS FALSE NEIGHBOUR: 'it returns false'. Refute it at one input. -/
def offsWiderWrong : ChangeSpec := { name := "offsWider", fn := fun _ => fun
  | [d1, d2, d3] => { results := [.lit (.bool false)], args := [d1, d2, d3] }
  | _ => none }
def OffsWiderWrongFalsely : Prop := offsWiderRow.holds Tryz.pinned (OpenSpec.ofChange offsWiderWrong)

/-- 'trystlaw14.OffsKeys': WHATEVER THE INPUT: true; the input reads as it did. -/
def offsKeysSpec : ChangeSpec := { name := "offsKeys", fn := fun _ => fun
  | [d1, d2] => { results := [.lit (.bool true)], args := [d1, d2] }
  | _ => none }
def offsKeysRow : OpenClaim := { program := "ytmlbdblnmbmnpaagreatdoor", sum := "29e3a37620b300d37c1994bb21f3146485c061901b7631bdf9bd19a2b5cf3884", func := "tryst/trystlaw14.OffsKeys", spec := "offsKeys", inPlace := ["internal/bytealg.IndexByteString", "internal/bytealg.IndexString", "internal/bytealg.CountString", "internal/bytealg.abigen_runtime_cmpstring", "slices.overlaps[tryst/api.Off]"], unfollowed := true, recurses := true, named := ["internal/bytealg.MaxLen", "unicode/utf8.first", "unicode/utf8.acceptRanges"], loops := true, plainKeys := false, apart := false, laid := [("unicode/utf8.acceptRanges", laid_unicode_utf8_acceptRanges), ("unicode/utf8.first", laid_unicode_utf8_first)] }
def OffsKeysSaid : Prop := offsKeysRow.holds Tryz.pinned (OpenSpec.ofChange offsKeysSpec)

/-- ITS FALSE NEIGHBOUR: 'it returns false'. Refute it at one input. -/
def offsKeysWrong : ChangeSpec := { name := "offsKeys", fn := fun _ => fun
  | [d1, d2] => { results := [.lit (.bool false)], args := [d1, d2] }
  | _ => none }
def OffsKeysWrongFalsely : Prop := offsKeysRow.holds Tryz.pinned (OpenSpec.ofChange offsKeysWrong)

/-- 'trystlaw14.OffsWants': WHATEVER THE INPUT: true; the input reads as it did. -/
def offsWantsSpec : ChangeSpec := { name := "offsWants", fn := fun _ => fun
  | [d] => { results := [.lit (.bool true)], args := [d] }
  | _ => none }
def offsWantsRow : OpenClaim := { program := "ytmlbdblnmbmnpaagreatdoor", sum := "29e3a37620b300d37c1994bb21f3146485c061901b7631bdf9bd19a2b5cf3884", func := "tryst/trystlaw14.OffsWants", spec := "offsWants", inPlace := ["internal/bytealg.IndexByteString", "internal/bytealg.IndexString", "internal/bytealg.CountString", "internal/bytealg.abigen_runtime_cmpstring", "slices.overlaps[tryst/api.Off]"], unfollowed := true, recurses := true, named := ["internal/bytealg.MaxLen", "unicode/utf8.first", "unicode/utf8.acceptRanges"], loops := true, plainKeys := false, apart := false, laid := [("unicode/utf8.acceptRanges", laid_unicode_utf8_acceptRanges), ("unicode/utf8.first", laid_unicode_utf8_first)] }
def OffsWantsSaid : Prop := offsWantsRow.holds Tryz.pinned (OpenSpec.ofChange offsWantsSpec)

/-- ITS FALSE NEIGHBOUR: 'it returns false'. Refute it at one input. -/
def offsWantsWrong : ChangeSpec := { name := "offsWants", fn := fun _ => fun
  | [d] => { results := [.lit (.bool false)], args := [d] }
  | _ => none }
def OffsWantsWrongFalsely : Prop := offsWantsRow.holds Tryz.pinned (OpenSpec.ofChange offsWantsWrong)

/- THE SECOND FORM. 'bulk': how many values and letters a reading holds, each counted each time it is reached (what is shared counts as often as it is met; a slice's spare places count too). A statement '..UptoSaid' is the law's where the arguments, and the package variables that the reading takes, are together of bulk at most 1048576: NARROWER than '..Said'. Prove '..Said' where nothing that the law and all that it calls make is longer than what came in: it says more and counts as full. Else prove '..UptoSaid'. A law counts once. -/
mutual
def uptoBulk {H : Type} : DataW H → Nat
  | .lit (.string bytes) => bytes.length + 1
  | .lit _ => 1
  | .nil => 1
  | .ptr d => uptoBulk d + 1
  | .slice elems spare => uptoBulkAll elems + uptoBulkAll spare + 1
  | .agg parts => uptoBulkAll parts + 1
  | .iface _ d => uptoBulk d + 1
  | .map entries => uptoBulkEntries entries + 1
  | .held _ => 1
def uptoBulkAll {H : Type} : List (DataW H) → Nat
  | [] => 0
  | d :: r => uptoBulk d + uptoBulkAll r
def uptoBulkEntries {H : Type} : List (Lit × DataW H) → Nat
  | [] => 0
  | x :: r => uptoBulkEntry x + uptoBulkEntries r
def uptoBulkEntry {H : Type} : Lit × DataW H → Nat
  | (.string bytes, d) => bytes.length + uptoBulk d + 1
  | (_, d) => uptoBulk d + 1
 end
def uptoSmall : (H : Type) → List (DataW H) → Bool := fun _ ds => decide (uptoBulkAll ds ≤ 1048576)
def OpenSpec.upto (s : _root_.Go.ChangeSpec) : _root_.Go.OpenSpec := { _root_.Go.OpenSpec.ofChange s with cond := some uptoSmall }

/-- 'trystlaw14.OffsNexts', WHERE WHAT IT READS IS OF BULK AT MOST 1048576: true; the input reads as it did. -/
def offsNextsUptoRow : OpenClaim := { program := "ytmlbdblnmbmnpaagreatdoor", sum := "29e3a37620b300d37c1994bb21f3146485c061901b7631bdf9bd19a2b5cf3884", func := "tryst/trystlaw14.OffsNexts", spec := "offsNexts", inPlace := ["internal/bytealg.IndexByteString", "internal/bytealg.IndexString", "slices.overlaps[tryst/api.Off]", "internal/bytealg.CountString", "internal/bytealg.abigen_runtime_cmpstring"], unfollowed := true, recurses := true, named := ["internal/bytealg.MaxLen", "unicode/utf8.first", "unicode/utf8.acceptRanges"], loops := true, plainKeys := false, apart := false, laid := [("unicode/utf8.acceptRanges", laid_unicode_utf8_acceptRanges), ("unicode/utf8.first", laid_unicode_utf8_first)], narrowed := true }
def OffsNextsUptoSaid : Prop := offsNextsUptoRow.holds Tryz.pinned (OpenSpec.upto offsNextsSpec)

/-- 'trystlaw14.OffsReads', WHERE WHAT IT READS IS OF BULK AT MOST 1048576: true; the input reads as it did. -/
def offsReadsUptoRow : OpenClaim := { program := "ytmlbdblnmbmnpaagreatdoor", sum := "29e3a37620b300d37c1994bb21f3146485c061901b7631bdf9bd19a2b5cf3884", func := "tryst/trystlaw14.OffsReads", spec := "offsReads", inPlace := ["internal/bytealg.IndexByteString", "internal/bytealg.IndexString", "internal/bytealg.CountString", "slices.overlaps[tryst/api.Off]", "internal/bytealg.abigen_runtime_cmpstring"], unfollowed := true, recurses := true, named := ["internal/bytealg.MaxLen", "unicode/utf8.first", "unicode/utf8.acceptRanges"], loops := true, plainKeys := false, apart := false, laid := [("unicode/utf8.acceptRanges", laid_unicode_utf8_acceptRanges), ("unicode/utf8.first", laid_unicode_utf8_first)], narrowed := true }
def OffsReadsUptoSaid : Prop := offsReadsUptoRow.holds Tryz.pinned (OpenSpec.upto offsReadsSpec)

/-- 'trystlaw14.OffsPuts', WHERE WHAT IT READS IS OF BULK AT MOST 1048576: true; the input reads as it did. -/
def offsPutsUptoRow : OpenClaim := { program := "ytmlbdblnmbmnpaagreatdoor", sum := "29e3a37620b300d37c1994bb21f3146485c061901b7631bdf9bd19a2b5cf3884", func := "tryst/trystlaw14.OffsPuts", spec := "offsPuts", inPlace := ["internal/bytealg.IndexByteString", "internal/bytealg.IndexString", "slices.overlaps[tryst/api.Off]", "internal/bytealg.CountString", "internal/bytealg.abigen_runtime_cmpstring"], unfollowed := true, recurses := true, named := ["internal/bytealg.MaxLen", "unicode/utf8.first", "unicode/utf8.acceptRanges"], plainKeys := false, apart := false, laid := [("unicode/utf8.acceptRanges", laid_unicode_utf8_acceptRanges), ("unicode/utf8.first", laid_unicode_utf8_first)], narrowed := true }
def OffsPutsUptoSaid : Prop := offsPutsUptoRow.holds Tryz.pinned (OpenSpec.upto offsPutsSpec)

/-- 'trystlaw14.OffsWider', WHERE WHAT IT READS IS OF BULK AT MOST 1048576: true; the input reads as it did. -/
def offsWiderUptoRow : OpenClaim := { program := "ytmlbdblnmbmnpaagreatdoor", sum := "29e3a37620b300d37c1994bb21f3146485c061901b7631bdf9bd19a2b5cf3884", func := "tryst/trystlaw14.OffsWider", spec := "offsWider", inPlace := ["internal/bytealg.IndexByteString", "internal/bytealg.IndexString", "internal/bytealg.CountString", "internal/bytealg.abigen_runtime_cmpstring", "slices.overlaps[tryst/api.Off]"], unfollowed := true, recurses := true, named := ["internal/bytealg.MaxLen", "unicode/utf8.first", "unicode/utf8.acceptRanges"], loops := true, plainKeys := false, apart := false, laid := [("unicode/utf8.acceptRanges", laid_unicode_utf8_acceptRanges), ("unicode/utf8.first", laid_unicode_utf8_first)], narrowed := true }
def OffsWiderUptoSaid : Prop := offsWiderUptoRow.holds Tryz.pinned (OpenSpec.upto offsWiderSpec)

/-- 'trystlaw14.OffsKeys', WHERE WHAT IT READS IS OF BULK AT MOST 1048576: true; the input reads as it did. -/
def offsKeysUptoRow : OpenClaim := { program := "ytmlbdblnmbmnpaagreatdoor", sum := "29e3a37620b300d37c1994bb21f3146485c061901b7631bdf9bd19a2b5cf3884", func := "tryst/trystlaw14.OffsKeys", spec := "offsKeys", inPlace := ["internal/bytealg.IndexByteString", "internal/bytealg.IndexString", "internal/bytealg.CountString", "internal/bytealg.abigen_runtime_cmpstring", "slices.overlaps[tryst/api.Off]"], unfollowed := true, recurses := true, named := ["internal/bytealg.MaxLen", "unicode/utf8.first", "unicode/utf8.acceptRanges"], loops := true, plainKeys := false, apart := false, laid := [("unicode/utf8.acceptRanges", laid_unicode_utf8_acceptRanges), ("unicode/utf8.first", laid_unicode_utf8_first)], narrowed := true }
def OffsKeysUptoSaid : Prop := offsKeysUptoRow.holds Tryz.pinned (OpenSpec.upto offsKeysSpec)

/-- 'trystlaw14.OffsWants', WHERE WHAT IT READS IS OF BULK AT MOST 1048576: true; the input reads as it did. -/
def offsWantsUptoRow : OpenClaim := { program := "ytmlbdblnmbmnpaagreatdoor", sum := "29e3a37620b300d37c1994bb21f3146485c061901b7631bdf9bd19a2b5cf3884", func := "tryst/trystlaw14.OffsWants", spec := "offsWants", inPlace := ["internal/bytealg.IndexByteString", "internal/bytealg.IndexString", "internal/bytealg.CountString", "internal/bytealg.abigen_runtime_cmpstring", "slices.overlaps[tryst/api.Off]"], unfollowed := true, recurses := true, named := ["internal/bytealg.MaxLen", "unicode/utf8.first", "unicode/utf8.acceptRanges"], loops := true, plainKeys := false, apart := false, laid := [("unicode/utf8.acceptRanges", laid_unicode_utf8_acceptRanges), ("unicode/utf8.first", laid_unicode_utf8_first)], narrowed := true }
def OffsWantsUptoSaid : Prop := offsWantsUptoRow.holds Tryz.pinned (OpenSpec.upto offsWantsSpec)

end Rows
end Go.Proofs.YtmlbdblnmbmnpaaGreatDoor
