/-
  DERIVED. GIVEN WITH THE SEED: THE CARDS: each row of YtmagghfegikidaaDoorRows.lean that lists a variable, with what it lists TIED to the program's text (the seventh form; the later family's looks); each row that meets fmt, with fmt's text TOLD by the authors' own Lean function (tested against real Go, not proved from fmt's source: count such statements apart). THE CARD IS WHAT COUNTS. Prove the row's statement (the work); the ties are given (YtmagghfegikidaaDoorTie.lean); close each card by the builder's one call (the guide's Derived/Test/ToyasCard.lean, 'card_holds'). Laid BY PROGRAM, IN A SANDBOX (cutbox-door.mjs). By AI agents, Wed Nov 11 2026. No macro, syntax, notation, axiom, sorry.
-/
import Derived.Test.YtmagghfegikidaaDoorRows
import GoSem.ClaimSeven
namespace Go.Proofs.YtmagghfegikidaaDoor
namespace Rows

/-- THE TIED CARD OF 'trystlaw03.ValReads'. -/
def valReadsCard : Claim7 := { stood := { row := valReadsRow, standIns := [], harness := (true, "39d76ead7abeb117359c0ef56eb0b8f3a049d821bc4f188beb819ea003a75fc9"), looks := false }, kinds := [], alts := [], laidByText := true, laidKinds := [.data, .data, .data], laidTests := true, laidLooks := .later }
def ValReadsCardSaid : Prop := Claim7.holds Tryd.pinned (.plain (OpenSpec.ofChange valReadsSpec)) valReadsCard

/-- THE TIED CARD OF 'trystlaw03.ValApart'. -/
def valApartCard : Claim7 := { stood := { row := valApartRow, standIns := [], harness := (true, "39d76ead7abeb117359c0ef56eb0b8f3a049d821bc4f188beb819ea003a75fc9"), looks := false }, kinds := [], alts := [], laidByText := true, laidKinds := [.data, .data, .data], laidTests := true, laidLooks := .later }
def ValApartCardSaid : Prop := Claim7.holds Tryd.pinned (.plain (OpenSpec.ofChange valApartSpec)) valApartCard

/-- THE TIED CARD OF 'trystlaw03.ValWrites'. -/
def valWritesCard : Claim7 := { stood := { row := valWritesRow, standIns := [], harness := (true, "39d76ead7abeb117359c0ef56eb0b8f3a049d821bc4f188beb819ea003a75fc9"), looks := false }, kinds := [], alts := [], laidByText := true, laidKinds := [.data, .data, .data], laidTests := true, laidLooks := .later }
def ValWritesCardSaid : Prop := Claim7.holds Tryd.pinned (.plain (OpenSpec.ofChange valWritesSpec)) valWritesCard

/-- THE TIED CARD OF 'trystlaw03.ValOrders'. -/
def valOrdersCard : Claim7 := { stood := { row := valOrdersRow, standIns := [], harness := (true, "39d76ead7abeb117359c0ef56eb0b8f3a049d821bc4f188beb819ea003a75fc9"), looks := false }, kinds := [], alts := [], laidByText := true, laidKinds := [.data, .data, .data], laidTests := true, laidLooks := .later }
def ValOrdersCardSaid : Prop := Claim7.holds Tryd.pinned (.plain (OpenSpec.ofChange valOrdersSpec)) valOrdersCard

/-- THE TIED CARD OF 'trystlaw03.ValTakes'. -/
def valTakesCard : Claim7 := { stood := { row := valTakesRow, standIns := [], harness := (true, "39d76ead7abeb117359c0ef56eb0b8f3a049d821bc4f188beb819ea003a75fc9"), looks := false }, kinds := [], alts := [], laidByText := true, laidKinds := [.data, .data, .data], laidTests := true, laidLooks := .later }
def ValTakesCardSaid : Prop := Claim7.holds Tryd.pinned (.plain (OpenSpec.ofChange valTakesSpec)) valTakesCard

/-- THE TIED CARD OF 'trystlaw03.ValBehind'. -/
def valBehindCard : Claim7 := { stood := { row := valBehindRow, standIns := [], harness := (true, "39d76ead7abeb117359c0ef56eb0b8f3a049d821bc4f188beb819ea003a75fc9"), looks := false }, kinds := [], alts := [], laidByText := true, laidKinds := [.data, .data, .data], laidTests := true, laidLooks := .later }
def ValBehindCardSaid : Prop := Claim7.holds Tryd.pinned (.plain (OpenSpec.ofChange valBehindSpec)) valBehindCard

/-- THE TIED CARD OF 'trystlaw03.ValLays'. -/
def valLaysCard : Claim7 := { stood := { row := valLaysRow, standIns := [], harness := (true, "39d76ead7abeb117359c0ef56eb0b8f3a049d821bc4f188beb819ea003a75fc9"), looks := false }, kinds := [], alts := [], laidByText := true, laidKinds := [.data, .data, .data], laidTests := true, laidLooks := .later }
def ValLaysCardSaid : Prop := Claim7.holds Tryd.pinned (.plain (OpenSpec.ofChange valLaysSpec)) valLaysCard

/-- THE SECOND FORM's CARD OF 'trystlaw03.ValReads'. -/
def valReadsUptoCard : Claim7 := { stood := { row := valReadsUptoRow, standIns := [], harness := (true, "39d76ead7abeb117359c0ef56eb0b8f3a049d821bc4f188beb819ea003a75fc9"), looks := false }, kinds := [], alts := [], laidByText := true, laidKinds := [.data, .data, .data], laidTests := true, laidLooks := .later }
def ValReadsUptoCardSaid : Prop := Claim7.holds Tryd.pinned (.plain (OpenSpec.upto valReadsSpec)) valReadsUptoCard

/-- THE SECOND FORM's CARD OF 'trystlaw03.ValApart'. -/
def valApartUptoCard : Claim7 := { stood := { row := valApartUptoRow, standIns := [], harness := (true, "39d76ead7abeb117359c0ef56eb0b8f3a049d821bc4f188beb819ea003a75fc9"), looks := false }, kinds := [], alts := [], laidByText := true, laidKinds := [.data, .data, .data], laidTests := true, laidLooks := .later }
def ValApartUptoCardSaid : Prop := Claim7.holds Tryd.pinned (.plain (OpenSpec.upto valApartSpec)) valApartUptoCard

/-- THE SECOND FORM's CARD OF 'trystlaw03.ValWrites'. -/
def valWritesUptoCard : Claim7 := { stood := { row := valWritesUptoRow, standIns := [], harness := (true, "39d76ead7abeb117359c0ef56eb0b8f3a049d821bc4f188beb819ea003a75fc9"), looks := false }, kinds := [], alts := [], laidByText := true, laidKinds := [.data, .data, .data], laidTests := true, laidLooks := .later }
def ValWritesUptoCardSaid : Prop := Claim7.holds Tryd.pinned (.plain (OpenSpec.upto valWritesSpec)) valWritesUptoCard

/-- THE SECOND FORM's CARD OF 'trystlaw03.ValOrders'. -/
def valOrdersUptoCard : Claim7 := { stood := { row := valOrdersUptoRow, standIns := [], harness := (true, "39d76ead7abeb117359c0ef56eb0b8f3a049d821bc4f188beb819ea003a75fc9"), looks := false }, kinds := [], alts := [], laidByText := true, laidKinds := [.data, .data, .data], laidTests := true, laidLooks := .later }
def ValOrdersUptoCardSaid : Prop := Claim7.holds Tryd.pinned (.plain (OpenSpec.upto valOrdersSpec)) valOrdersUptoCard

/-- THE SECOND FORM's CARD OF 'trystlaw03.ValTakes'. -/
def valTakesUptoCard : Claim7 := { stood := { row := valTakesUptoRow, standIns := [], harness := (true, "39d76ead7abeb117359c0ef56eb0b8f3a049d821bc4f188beb819ea003a75fc9"), looks := false }, kinds := [], alts := [], laidByText := true, laidKinds := [.data, .data, .data], laidTests := true, laidLooks := .later }
def ValTakesUptoCardSaid : Prop := Claim7.holds Tryd.pinned (.plain (OpenSpec.upto valTakesSpec)) valTakesUptoCard

/-- THE SECOND FORM's CARD OF 'trystlaw03.ValBehind'. -/
def valBehindUptoCard : Claim7 := { stood := { row := valBehindUptoRow, standIns := [], harness := (true, "39d76ead7abeb117359c0ef56eb0b8f3a049d821bc4f188beb819ea003a75fc9"), looks := false }, kinds := [], alts := [], laidByText := true, laidKinds := [.data, .data, .data], laidTests := true, laidLooks := .later }
def ValBehindUptoCardSaid : Prop := Claim7.holds Tryd.pinned (.plain (OpenSpec.upto valBehindSpec)) valBehindUptoCard

/-- THE SECOND FORM's CARD OF 'trystlaw03.ValLays'. -/
def valLaysUptoCard : Claim7 := { stood := { row := valLaysUptoRow, standIns := [], harness := (true, "39d76ead7abeb117359c0ef56eb0b8f3a049d821bc4f188beb819ea003a75fc9"), looks := false }, kinds := [], alts := [], laidByText := true, laidKinds := [.data, .data, .data], laidTests := true, laidLooks := .later }
def ValLaysUptoCardSaid : Prop := Claim7.holds Tryd.pinned (.plain (OpenSpec.upto valLaysSpec)) valLaysUptoCard
end Rows
end Go.Proofs.YtmagghfegikidaaDoor
