/-
  DERIVED. GIVEN WITH THE SEED: THE CARDS: each row of YtcbicdencgjfiaaGreatDoorRows.lean that lists a variable, with what it lists TIED to the program's text (the seventh form; the later family's looks); each row that meets fmt, with fmt's text TOLD by the authors' own Lean function (tested against real Go, not proved from fmt's source: count such statements apart). THE CARD IS WHAT COUNTS. Prove the row's statement (the work); the ties are given (YtcbicdencgjfiaaGreatDoorTie.lean); close each card by the builder's one call (the guide's Derived/Test/ToyasCard.lean, 'card_holds'). Laid BY PROGRAM, IN A SANDBOX (cutbox-door.mjs). By AI agents, Wed Nov 11 2026. No macro, syntax, notation, axiom, sorry.
-/
import Derived.Test.YtcbicdencgjfiaaGreatDoorRows
import GoSem.ClaimSeven
namespace Go.Proofs.YtcbicdencgjfiaaGreatDoor
namespace Rows

/-- THE TIED CARD OF 'trystlaw20.ShelfLays'. -/
def shelfLaysCard : Claim7 := { stood := { row := shelfLaysRow, standIns := [], harness := (true, "620346e3862a133a4a41f9a9a0a8a2b302bf2e75ec6720fedcd44f6b48a010d7"), looks := false }, kinds := [], alts := [], laidByText := true, laidKinds := [.data, .data, .data], laidTests := true, laidLooks := .later }
def ShelfLaysCardSaid : Prop := Claim7.holds Tryz.pinned (.plain (OpenSpec.ofChange shelfLaysSpec)) shelfLaysCard

/-- THE TIED CARD OF 'trystlaw20.ShelfTakes'. -/
def shelfTakesCard : Claim7 := { stood := { row := shelfTakesRow, standIns := [], harness := (true, "620346e3862a133a4a41f9a9a0a8a2b302bf2e75ec6720fedcd44f6b48a010d7"), looks := false }, kinds := [], alts := [], laidByText := true, laidKinds := [.data, .data, .data], laidTests := true, laidLooks := .later }
def ShelfTakesCardSaid : Prop := Claim7.holds Tryz.pinned (.plain (OpenSpec.ofChange shelfTakesSpec)) shelfTakesCard

/-- THE TIED CARD OF 'trystlaw20.ShelfSame'. -/
def shelfSameCard : Claim7 := { stood := { row := shelfSameRow, standIns := [], harness := (true, "620346e3862a133a4a41f9a9a0a8a2b302bf2e75ec6720fedcd44f6b48a010d7"), looks := false }, kinds := [], alts := [], laidByText := true, laidKinds := [.data, .data, .data], laidTests := true, laidLooks := .later }
def ShelfSameCardSaid : Prop := Claim7.holds Tryz.pinned (.plain (OpenSpec.ofChange shelfSameSpec)) shelfSameCard

/-- THE TIED CARD OF 'trystlaw20.ShelfReads'. -/
def shelfReadsCard : Claim7 := { stood := { row := shelfReadsRow, standIns := [], harness := (true, "620346e3862a133a4a41f9a9a0a8a2b302bf2e75ec6720fedcd44f6b48a010d7"), looks := false }, kinds := [], alts := [], laidByText := true, laidKinds := [.data, .data, .data], laidTests := true, laidLooks := .later }
def ShelfReadsCardSaid : Prop := Claim7.holds Tryz.pinned (.plain (OpenSpec.ofChange shelfReadsSpec)) shelfReadsCard

/-- THE TIED CARD OF 'trystlaw20.ShelfShort'. -/
def shelfShortCard : Claim7 := { stood := { row := shelfShortRow, standIns := [], harness := (true, "620346e3862a133a4a41f9a9a0a8a2b302bf2e75ec6720fedcd44f6b48a010d7"), looks := false }, kinds := [], alts := [], laidByText := true, laidKinds := [.data, .data, .data], laidTests := true, laidLooks := .later }
def ShelfShortCardSaid : Prop := Claim7.holds Tryz.pinned (.plain (OpenSpec.ofChange shelfShortSpec)) shelfShortCard

/-- THE TIED CARD OF 'trystlaw20.ShelfOps'. -/
def shelfOpsCard : Claim7 := { stood := { row := shelfOpsRow, standIns := [], harness := (true, "620346e3862a133a4a41f9a9a0a8a2b302bf2e75ec6720fedcd44f6b48a010d7"), looks := false }, kinds := [], alts := [], laidByText := true, laidKinds := [.data, .data, .data], laidTests := true, laidLooks := .later }
def ShelfOpsCardSaid : Prop := Claim7.holds Tryz.pinned (.plain (OpenSpec.ofChange shelfOpsSpec)) shelfOpsCard

/-- THE SECOND FORM's CARD OF 'trystlaw20.ShelfLays'. -/
def shelfLaysUptoCard : Claim7 := { stood := { row := shelfLaysUptoRow, standIns := [], harness := (true, "620346e3862a133a4a41f9a9a0a8a2b302bf2e75ec6720fedcd44f6b48a010d7"), looks := false }, kinds := [], alts := [], laidByText := true, laidKinds := [.data, .data, .data], laidTests := true, laidLooks := .later }
def ShelfLaysUptoCardSaid : Prop := Claim7.holds Tryz.pinned (.plain (OpenSpec.upto shelfLaysSpec)) shelfLaysUptoCard

/-- THE SECOND FORM's CARD OF 'trystlaw20.ShelfTakes'. -/
def shelfTakesUptoCard : Claim7 := { stood := { row := shelfTakesUptoRow, standIns := [], harness := (true, "620346e3862a133a4a41f9a9a0a8a2b302bf2e75ec6720fedcd44f6b48a010d7"), looks := false }, kinds := [], alts := [], laidByText := true, laidKinds := [.data, .data, .data], laidTests := true, laidLooks := .later }
def ShelfTakesUptoCardSaid : Prop := Claim7.holds Tryz.pinned (.plain (OpenSpec.upto shelfTakesSpec)) shelfTakesUptoCard

/-- THE SECOND FORM's CARD OF 'trystlaw20.ShelfSame'. -/
def shelfSameUptoCard : Claim7 := { stood := { row := shelfSameUptoRow, standIns := [], harness := (true, "620346e3862a133a4a41f9a9a0a8a2b302bf2e75ec6720fedcd44f6b48a010d7"), looks := false }, kinds := [], alts := [], laidByText := true, laidKinds := [.data, .data, .data], laidTests := true, laidLooks := .later }
def ShelfSameUptoCardSaid : Prop := Claim7.holds Tryz.pinned (.plain (OpenSpec.upto shelfSameSpec)) shelfSameUptoCard

/-- THE SECOND FORM's CARD OF 'trystlaw20.ShelfReads'. -/
def shelfReadsUptoCard : Claim7 := { stood := { row := shelfReadsUptoRow, standIns := [], harness := (true, "620346e3862a133a4a41f9a9a0a8a2b302bf2e75ec6720fedcd44f6b48a010d7"), looks := false }, kinds := [], alts := [], laidByText := true, laidKinds := [.data, .data, .data], laidTests := true, laidLooks := .later }
def ShelfReadsUptoCardSaid : Prop := Claim7.holds Tryz.pinned (.plain (OpenSpec.upto shelfReadsSpec)) shelfReadsUptoCard

/-- THE SECOND FORM's CARD OF 'trystlaw20.ShelfShort'. -/
def shelfShortUptoCard : Claim7 := { stood := { row := shelfShortUptoRow, standIns := [], harness := (true, "620346e3862a133a4a41f9a9a0a8a2b302bf2e75ec6720fedcd44f6b48a010d7"), looks := false }, kinds := [], alts := [], laidByText := true, laidKinds := [.data, .data, .data], laidTests := true, laidLooks := .later }
def ShelfShortUptoCardSaid : Prop := Claim7.holds Tryz.pinned (.plain (OpenSpec.upto shelfShortSpec)) shelfShortUptoCard

/-- THE SECOND FORM's CARD OF 'trystlaw20.ShelfOps'. -/
def shelfOpsUptoCard : Claim7 := { stood := { row := shelfOpsUptoRow, standIns := [], harness := (true, "620346e3862a133a4a41f9a9a0a8a2b302bf2e75ec6720fedcd44f6b48a010d7"), looks := false }, kinds := [], alts := [], laidByText := true, laidKinds := [.data, .data, .data], laidTests := true, laidLooks := .later }
def ShelfOpsUptoCardSaid : Prop := Claim7.holds Tryz.pinned (.plain (OpenSpec.upto shelfOpsSpec)) shelfOpsUptoCard
end Rows
end Go.Proofs.YtcbicdencgjfiaaGreatDoor
