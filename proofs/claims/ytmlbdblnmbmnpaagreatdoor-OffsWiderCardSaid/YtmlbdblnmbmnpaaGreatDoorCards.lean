/-
  DERIVED. GIVEN WITH THE SEED: THE CARDS: each row of YtmlbdblnmbmnpaaGreatDoorRows.lean that lists a variable, with what it lists TIED to the program's text (the seventh form; the later family's looks); each row that meets fmt, with fmt's text TOLD by the authors' own Lean function (tested against real Go, not proved from fmt's source: count such statements apart). THE CARD IS WHAT COUNTS. Prove the row's statement (the work); the ties are given (YtmlbdblnmbmnpaaGreatDoorTie.lean); close each card by the builder's one call (the guide's Derived/Test/ToyasCard.lean, 'card_holds'). Laid BY PROGRAM, IN A SANDBOX (cutbox-door.mjs). By AI agents, Wed Nov 11 2026. No macro, syntax, notation, axiom, sorry.
-/
import Derived.Test.YtmlbdblnmbmnpaaGreatDoorRows
import GoSem.ClaimSeven
namespace Go.Proofs.YtmlbdblnmbmnpaaGreatDoor
namespace Rows

/-- THE TIED CARD OF 'trystlaw14.OffsNexts'. -/
def offsNextsCard : Claim7 := { stood := { row := offsNextsRow, standIns := [], harness := (true, "919a31d2fb69c7974a358bb0dbe35d65e438aaefb7a5befa61d4dc2a80e3d907"), looks := false }, kinds := [], alts := [], laidByText := true, laidKinds := [.data, .pinned], laidTests := true, laidLooks := .later }
def OffsNextsCardSaid : Prop := Claim7.holds Tryz.pinned (.plain (OpenSpec.ofChange offsNextsSpec)) offsNextsCard

/-- THE TIED CARD OF 'trystlaw14.OffsReads'. -/
def offsReadsCard : Claim7 := { stood := { row := offsReadsRow, standIns := [], harness := (true, "919a31d2fb69c7974a358bb0dbe35d65e438aaefb7a5befa61d4dc2a80e3d907"), looks := false }, kinds := [], alts := [], laidByText := true, laidKinds := [.data, .pinned], laidTests := true, laidLooks := .later }
def OffsReadsCardSaid : Prop := Claim7.holds Tryz.pinned (.plain (OpenSpec.ofChange offsReadsSpec)) offsReadsCard

/-- THE TIED CARD OF 'trystlaw14.OffsPuts'. -/
def offsPutsCard : Claim7 := { stood := { row := offsPutsRow, standIns := [], harness := (true, "919a31d2fb69c7974a358bb0dbe35d65e438aaefb7a5befa61d4dc2a80e3d907"), looks := false }, kinds := [], alts := [], laidByText := true, laidKinds := [.data, .pinned], laidTests := true, laidLooks := .later }
def OffsPutsCardSaid : Prop := Claim7.holds Tryz.pinned (.plain (OpenSpec.ofChange offsPutsSpec)) offsPutsCard

/-- THE TIED CARD OF 'trystlaw14.OffsWider'. -/
def offsWiderCard : Claim7 := { stood := { row := offsWiderRow, standIns := [], harness := (true, "919a31d2fb69c7974a358bb0dbe35d65e438aaefb7a5befa61d4dc2a80e3d907"), looks := false }, kinds := [], alts := [], laidByText := true, laidKinds := [.data, .pinned], laidTests := true, laidLooks := .later }
def OffsWiderCardSaid : Prop := Claim7.holds Tryz.pinned (.plain (OpenSpec.ofChange offsWiderSpec)) offsWiderCard

/-- THE TIED CARD OF 'trystlaw14.OffsKeys'. -/
def offsKeysCard : Claim7 := { stood := { row := offsKeysRow, standIns := [], harness := (true, "919a31d2fb69c7974a358bb0dbe35d65e438aaefb7a5befa61d4dc2a80e3d907"), looks := false }, kinds := [], alts := [], laidByText := true, laidKinds := [.data, .pinned], laidTests := true, laidLooks := .later }
def OffsKeysCardSaid : Prop := Claim7.holds Tryz.pinned (.plain (OpenSpec.ofChange offsKeysSpec)) offsKeysCard

/-- THE TIED CARD OF 'trystlaw14.OffsWants'. -/
def offsWantsCard : Claim7 := { stood := { row := offsWantsRow, standIns := [], harness := (true, "919a31d2fb69c7974a358bb0dbe35d65e438aaefb7a5befa61d4dc2a80e3d907"), looks := false }, kinds := [], alts := [], laidByText := true, laidKinds := [.data, .pinned], laidTests := true, laidLooks := .later }
def OffsWantsCardSaid : Prop := Claim7.holds Tryz.pinned (.plain (OpenSpec.ofChange offsWantsSpec)) offsWantsCard

/-- THE SECOND FORM's CARD OF 'trystlaw14.OffsNexts'. -/
def offsNextsUptoCard : Claim7 := { stood := { row := offsNextsUptoRow, standIns := [], harness := (true, "919a31d2fb69c7974a358bb0dbe35d65e438aaefb7a5befa61d4dc2a80e3d907"), looks := false }, kinds := [], alts := [], laidByText := true, laidKinds := [.data, .pinned], laidTests := true, laidLooks := .later }
def OffsNextsUptoCardSaid : Prop := Claim7.holds Tryz.pinned (.plain (OpenSpec.upto offsNextsSpec)) offsNextsUptoCard

/-- THE SECOND FORM's CARD OF 'trystlaw14.OffsReads'. -/
def offsReadsUptoCard : Claim7 := { stood := { row := offsReadsUptoRow, standIns := [], harness := (true, "919a31d2fb69c7974a358bb0dbe35d65e438aaefb7a5befa61d4dc2a80e3d907"), looks := false }, kinds := [], alts := [], laidByText := true, laidKinds := [.data, .pinned], laidTests := true, laidLooks := .later }
def OffsReadsUptoCardSaid : Prop := Claim7.holds Tryz.pinned (.plain (OpenSpec.upto offsReadsSpec)) offsReadsUptoCard

/-- THE SECOND FORM's CARD OF 'trystlaw14.OffsPuts'. -/
def offsPutsUptoCard : Claim7 := { stood := { row := offsPutsUptoRow, standIns := [], harness := (true, "919a31d2fb69c7974a358bb0dbe35d65e438aaefb7a5befa61d4dc2a80e3d907"), looks := false }, kinds := [], alts := [], laidByText := true, laidKinds := [.data, .pinned], laidTests := true, laidLooks := .later }
def OffsPutsUptoCardSaid : Prop := Claim7.holds Tryz.pinned (.plain (OpenSpec.upto offsPutsSpec)) offsPutsUptoCard

/-- THE SECOND FORM's CARD OF 'trystlaw14.OffsWider'. -/
def offsWiderUptoCard : Claim7 := { stood := { row := offsWiderUptoRow, standIns := [], harness := (true, "919a31d2fb69c7974a358bb0dbe35d65e438aaefb7a5befa61d4dc2a80e3d907"), looks := false }, kinds := [], alts := [], laidByText := true, laidKinds := [.data, .pinned], laidTests := true, laidLooks := .later }
def OffsWiderUptoCardSaid : Prop := Claim7.holds Tryz.pinned (.plain (OpenSpec.upto offsWiderSpec)) offsWiderUptoCard

/-- THE SECOND FORM's CARD OF 'trystlaw14.OffsKeys'. -/
def offsKeysUptoCard : Claim7 := { stood := { row := offsKeysUptoRow, standIns := [], harness := (true, "919a31d2fb69c7974a358bb0dbe35d65e438aaefb7a5befa61d4dc2a80e3d907"), looks := false }, kinds := [], alts := [], laidByText := true, laidKinds := [.data, .pinned], laidTests := true, laidLooks := .later }
def OffsKeysUptoCardSaid : Prop := Claim7.holds Tryz.pinned (.plain (OpenSpec.upto offsKeysSpec)) offsKeysUptoCard

/-- THE SECOND FORM's CARD OF 'trystlaw14.OffsWants'. -/
def offsWantsUptoCard : Claim7 := { stood := { row := offsWantsUptoRow, standIns := [], harness := (true, "919a31d2fb69c7974a358bb0dbe35d65e438aaefb7a5befa61d4dc2a80e3d907"), looks := false }, kinds := [], alts := [], laidByText := true, laidKinds := [.data, .pinned], laidTests := true, laidLooks := .later }
def OffsWantsUptoCardSaid : Prop := Claim7.holds Tryz.pinned (.plain (OpenSpec.upto offsWantsSpec)) offsWantsUptoCard
end Rows
end Go.Proofs.YtmlbdblnmbmnpaaGreatDoor
