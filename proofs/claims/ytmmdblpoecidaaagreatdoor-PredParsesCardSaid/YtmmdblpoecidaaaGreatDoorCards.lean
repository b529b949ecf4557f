/-
  DERIVED. GIVEN WITH THE SEED: THE CARDS: each row of YtmmdblpoecidaaaGreatDoorRows.lean that lists a variable, with what it lists TIED to the program's text (the seventh form; the later family's looks); each row that meets fmt, with fmt's text TOLD by the authors' own Lean function (tested against real Go, not proved from fmt's source: count such statements apart). THE CARD IS WHAT COUNTS. Prove the row's statement (the work); the ties are given (YtmmdblpoecidaaaGreatDoorTie.lean); close each card by the builder's one call (the guide's Derived/Test/ToyasCard.lean, 'card_holds'). Laid BY PROGRAM, IN A SANDBOX (cutbox-door.mjs). By AI agents, Wed Nov 11 2026. No macro, syntax, notation, axiom, sorry.
-/
import Derived.Test.YtmmdblpoecidaaaGreatDoorRows
import GoSem.ClaimSeven
namespace Go.Proofs.YtmmdblpoecidaaaGreatDoor
namespace Rows

/-- THE TIED CARD OF 'trystlaw05.PredTexts'. -/
def predTextsCard : Claim7 := { stood := { row := predTextsRow, standIns := [], harness := (true, "54fe916f0cb6e72af60aee0cb636b886dad3788b65bf73d2709337af28567835"), looks := false }, kinds := [], alts := [], laidByText := true, laidKinds := [.data, .data, .data, .data, .pinned], laidTests := true, laidLooks := .later }
def PredTextsCardSaid : Prop := Claim7.holds Tryz.pinned (.plain (OpenSpec.ofChange predTextsSpec)) predTextsCard

/-- THE TIED CARD OF 'trystlaw05.PredParses'. -/
def predParsesCard : Claim7 := { stood := { row := predParsesRow, standIns := [], harness := (true, "54fe916f0cb6e72af60aee0cb636b886dad3788b65bf73d2709337af28567835"), looks := false }, kinds := [], alts := [], laidByText := true, laidKinds := [.data, .data, .data, .data, .pinned], laidTests := true, laidLooks := .later }
def PredParsesCardSaid : Prop := Claim7.holds Tryz.pinned (.plain (OpenSpec.ofChange predParsesSpec)) predParsesCard

/-- THE SECOND FORM's CARD OF 'trystlaw05.PredTexts'. -/
def predTextsUptoCard : Claim7 := { stood := { row := predTextsUptoRow, standIns := [], harness := (true, "54fe916f0cb6e72af60aee0cb636b886dad3788b65bf73d2709337af28567835"), looks := false }, kinds := [], alts := [], laidByText := true, laidKinds := [.data, .data, .data, .data, .pinned], laidTests := true, laidLooks := .later }
def PredTextsUptoCardSaid : Prop := Claim7.holds Tryz.pinned (.plain (OpenSpec.upto predTextsSpec)) predTextsUptoCard

/-- THE SECOND FORM's CARD OF 'trystlaw05.PredParses'. -/
def predParsesUptoCard : Claim7 := { stood := { row := predParsesUptoRow, standIns := [], harness := (true, "54fe916f0cb6e72af60aee0cb636b886dad3788b65bf73d2709337af28567835"), looks := false }, kinds := [], alts := [], laidByText := true, laidKinds := [.data, .data, .data, .data, .pinned], laidTests := true, laidLooks := .later }
def PredParsesUptoCardSaid : Prop := Claim7.holds Tryz.pinned (.plain (OpenSpec.upto predParsesSpec)) predParsesUptoCard
end Rows
end Go.Proofs.YtmmdblpoecidaaaGreatDoor
