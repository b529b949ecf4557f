/-
  DERIVED. GIVEN WITH THE SEED: THE CARDS: each row of YtmmdblpoecidaaaDoorRows.lean that lists a variable, with what it lists TIED to the program's text (the seventh form; the later family's looks); each row that meets fmt, with fmt's text TOLD by the authors' own Lean function (tested against real Go, not proved from fmt's source: count such statements apart). THE CARD IS WHAT COUNTS. Prove the row's statement (the work); the ties are given (YtmmdblpoecidaaaDoorTie.lean); close each card by the builder's one call (the guide's Derived/Test/ToyasCard.lean, 'card_holds'). Laid BY PROGRAM, IN A SANDBOX (cutbox-door.mjs). By AI agents, Wed Nov 11 2026. No macro, syntax, notation, axiom, sorry.
-/
import Derived.Test.YtmmdblpoecidaaaDoorRows
import GoSem.ClaimSeven
namespace Go.Proofs.YtmmdblpoecidaaaDoor
namespace Rows

/-- THE TIED CARD OF 'trystlaw05.PredLogic'. -/
def predLogicCard : Claim7 := { stood := { row := predLogicRow, standIns := [], harness := (true, "5727b2c92679686d9bd4989a4bcdbc4a9460317f1272db0b4f41ea56b90179bb"), looks := false }, kinds := [], alts := [], laidByText := true, laidKinds := [.data, .pinned], laidTests := true, laidLooks := .later }
def PredLogicCardSaid : Prop := Claim7.holds Tryd.pinned (.plain (OpenSpec.ofChange predLogicSpec)) predLogicCard

/-- THE TIED CARD OF 'trystlaw05.PredOrder'. -/
def predOrderCard : Claim7 := { stood := { row := predOrderRow, standIns := [], harness := (true, "5727b2c92679686d9bd4989a4bcdbc4a9460317f1272db0b4f41ea56b90179bb"), looks := false }, kinds := [], alts := [], laidByText := true, laidKinds := [.data, .pinned], laidTests := true, laidLooks := .later }
def PredOrderCardSaid : Prop := Claim7.holds Tryd.pinned (.plain (OpenSpec.ofChange predOrderSpec)) predOrderCard

/-- THE TIED CARD OF 'trystlaw05.PredTopics'. -/
def predTopicsCard : Claim7 := { stood := { row := predTopicsRow, standIns := [], harness := (true, "5727b2c92679686d9bd4989a4bcdbc4a9460317f1272db0b4f41ea56b90179bb"), looks := false }, kinds := [], alts := [], laidByText := true, laidKinds := [.data, .pinned], laidTests := true, laidLooks := .later }
def PredTopicsCardSaid : Prop := Claim7.holds Tryd.pinned (.plain (OpenSpec.ofChange predTopicsSpec)) predTopicsCard

/-- THE TIED CARD OF 'trystlaw05.PredHolds'. -/
def predHoldsCard : Claim7 := { stood := { row := predHoldsRow, standIns := [], harness := (true, "5727b2c92679686d9bd4989a4bcdbc4a9460317f1272db0b4f41ea56b90179bb"), looks := false }, kinds := [], alts := [], laidByText := true, laidKinds := [.data, .pinned], laidTests := true, laidLooks := .later }
def PredHoldsCardSaid : Prop := Claim7.holds Tryd.pinned (.plain (OpenSpec.ofChange predHoldsSpec)) predHoldsCard

/-- THE TIED CARD OF 'trystlaw05.PredApart'. -/
def predApartCard : Claim7 := { stood := { row := predApartRow, standIns := [], harness := (true, "5727b2c92679686d9bd4989a4bcdbc4a9460317f1272db0b4f41ea56b90179bb"), looks := false }, kinds := [], alts := [], laidByText := true, laidKinds := [.data, .data, .data, .data, .pinned], laidTests := true, laidLooks := .later }
def PredApartCardSaid : Prop := Claim7.holds Tryd.pinned (.plain (OpenSpec.ofChange predApartSpec)) predApartCard

/-- THE TIED CARD OF 'trystlaw05.PredDeep'. -/
def predDeepCard : Claim7 := { stood := { row := predDeepRow, standIns := [], harness := (true, "5727b2c92679686d9bd4989a4bcdbc4a9460317f1272db0b4f41ea56b90179bb"), looks := false }, kinds := [], alts := [], laidByText := true, laidKinds := [.data, .data, .data, .data, .pinned], laidTests := true, laidLooks := .later }
def PredDeepCardSaid : Prop := Claim7.holds Tryd.pinned (.plain (OpenSpec.ofChange predDeepSpec)) predDeepCard

/-- THE SECOND FORM's CARD OF 'trystlaw05.PredLogic'. -/
def predLogicUptoCard : Claim7 := { stood := { row := predLogicUptoRow, standIns := [], harness := (true, "5727b2c92679686d9bd4989a4bcdbc4a9460317f1272db0b4f41ea56b90179bb"), looks := false }, kinds := [], alts := [], laidByText := true, laidKinds := [.data, .pinned], laidTests := true, laidLooks := .later }
def PredLogicUptoCardSaid : Prop := Claim7.holds Tryd.pinned (.plain (OpenSpec.upto predLogicSpec)) predLogicUptoCard

/-- THE SECOND FORM's CARD OF 'trystlaw05.PredOrder'. -/
def predOrderUptoCard : Claim7 := { stood := { row := predOrderUptoRow, standIns := [], harness := (true, "5727b2c92679686d9bd4989a4bcdbc4a9460317f1272db0b4f41ea56b90179bb"), looks := false }, kinds := [], alts := [], laidByText := true, laidKinds := [.data, .pinned], laidTests := true, laidLooks := .later }
def PredOrderUptoCardSaid : Prop := Claim7.holds Tryd.pinned (.plain (OpenSpec.upto predOrderSpec)) predOrderUptoCard

/-- THE SECOND FORM's CARD OF 'trystlaw05.PredTopics'. -/
def predTopicsUptoCard : Claim7 := { stood := { row := predTopicsUptoRow, standIns := [], harness := (true, "5727b2c92679686d9bd4989a4bcdbc4a9460317f1272db0b4f41ea56b90179bb"), looks := false }, kinds := [], alts := [], laidByText := true, laidKinds := [.data, .pinned], laidTests := true, laidLooks := .later }
def PredTopicsUptoCardSaid : Prop := Claim7.holds Tryd.pinned (.plain (OpenSpec.upto predTopicsSpec)) predTopicsUptoCard

/-- THE SECOND FORM's CARD OF 'trystlaw05.PredHolds'. -/
def predHoldsUptoCard : Claim7 := { stood := { row := predHoldsUptoRow, standIns := [], harness := (true, "5727b2c92679686d9bd4989a4bcdbc4a9460317f1272db0b4f41ea56b90179bb"), looks := false }, kinds := [], alts := [], laidByText := true, laidKinds := [.data, .pinned], laidTests := true, laidLooks := .later }
def PredHoldsUptoCardSaid : Prop := Claim7.holds Tryd.pinned (.plain (OpenSpec.upto predHoldsSpec)) predHoldsUptoCard

/-- THE SECOND FORM's CARD OF 'trystlaw05.PredApart'. -/
def predApartUptoCard : Claim7 := { stood := { row := predApartUptoRow, standIns := [], harness := (true, "5727b2c92679686d9bd4989a4bcdbc4a9460317f1272db0b4f41ea56b90179bb"), looks := false }, kinds := [], alts := [], laidByText := true, laidKinds := [.data, .data, .data, .data, .pinned], laidTests := true, laidLooks := .later }
def PredApartUptoCardSaid : Prop := Claim7.holds Tryd.pinned (.plain (OpenSpec.upto predApartSpec)) predApartUptoCard

/-- THE SECOND FORM's CARD OF 'trystlaw05.PredDeep'. -/
def predDeepUptoCard : Claim7 := { stood := { row := predDeepUptoRow, standIns := [], harness := (true, "5727b2c92679686d9bd4989a4bcdbc4a9460317f1272db0b4f41ea56b90179bb"), looks := false }, kinds := [], alts := [], laidByText := true, laidKinds := [.data, .data, .data, .data, .pinned], laidTests := true, laidLooks := .later }
def PredDeepUptoCardSaid : Prop := Claim7.holds Tryd.pinned (.plain (OpenSpec.upto predDeepSpec)) predDeepUptoCard
end Rows
end Go.Proofs.YtmmdblpoecidaaaDoor
