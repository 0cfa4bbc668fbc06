/-
  DERIVED. GIVEN WITH THE SEED: THE CARDS: each row of YtkkmnjhecjkhgaaGreatDoorRows.lean that lists a variable, with what it lists TIED to the program's text (the seventh form; the later family's looks); each row that meets fmt, with fmt's text TOLD by the authors' own Lean function (tested against real Go, not proved from fmt's source: count such statements apart). THE CARD IS WHAT COUNTS. Prove the row's statement (the work); the ties are given (YtkkmnjhecjkhgaaGreatDoorTie.lean); close each card by the builder's one call (the guide's Derived/Test/ToyasCard.lean, 'card_holds'). Laid BY PROGRAM, IN A SANDBOX (cutbox-door.mjs). By AI agents, Wed Nov 11 2026. No macro, syntax, notation, axiom, sorry.
-/
import Derived.Test.YtkkmnjhecjkhgaaGreatDoorRows
import GoSem.ClaimSeven
namespace Go.Proofs.YtkkmnjhecjkhgaaGreatDoor
namespace Rows

/-- THE TIED CARD OF 'vernierlaw16.DataBlank'. -/
def dataBlankCard : Claim7 := { stood := { row := dataBlankRow, standIns := [], harness := (true, "cabef3fae85911dd92feea080557db9510ccb12717bebfd7ded4841dc5872904"), looks := true }, kinds := [], alts := [], laidByText := true, laidKinds := [.data, .data, .data, .data, .sentinel, .sentinel, .pinned], laidTests := true, laidLooks := .later }
def DataBlankCardSaid : Prop := Claim7.holds Tryz.pinned (.plain (OpenSpec.ofChange dataBlankSpec)) dataBlankCard

/-- THE TIED CARD OF 'vernierlaw16.DataBack'. -/
def dataBackCard : Claim7 := { stood := { row := dataBackRow, standIns := [], harness := (true, "cabef3fae85911dd92feea080557db9510ccb12717bebfd7ded4841dc5872904"), looks := true }, kinds := [], alts := [], laidByText := true, laidKinds := [.data, .data, .data, .data, .sentinel, .sentinel, .pinned], laidTests := true, laidLooks := .later }
def DataBackCardSaid : Prop := Claim7.holds Tryz.pinned (.plain (OpenSpec.ofChange dataBackSpec)) dataBackCard

/-- THE TIED CARD OF 'vernierlaw16.DataTens'. -/
def dataTensCard : Claim7 := { stood := { row := dataTensRow, standIns := [], harness := (true, "cabef3fae85911dd92feea080557db9510ccb12717bebfd7ded4841dc5872904"), looks := true }, kinds := [], alts := [], laidByText := true, laidKinds := [.data, .data, .data, .data, .sentinel, .sentinel, .pinned], laidTests := true, laidLooks := .later }
def DataTensCardSaid : Prop := Claim7.holds Tryz.pinned (.plain (OpenSpec.ofChange dataTensSpec)) dataTensCard

/-- THE TIED CARD OF 'vernierlaw22.SessOwn'. -/
def sessOwnCard : Claim7 := { stood := { row := sessOwnRow, standIns := [], harness := (true, "cabef3fae85911dd92feea080557db9510ccb12717bebfd7ded4841dc5872904"), looks := true }, kinds := [], alts := [], laidByText := true, laidKinds := [.data, .data, .data, .data, .sentinel, .sentinel, .pinned], laidTests := true, laidLooks := .later }
def SessOwnCardSaid : Prop := Claim7.holds Tryz.pinned (.plain (OpenSpec.ofChange sessOwnSpec)) sessOwnCard

/-- THE TIED CARD OF 'vernierlaw22.SessMany'. -/
def sessManyCard : Claim7 := { stood := { row := sessManyRow, standIns := [], harness := (true, "cabef3fae85911dd92feea080557db9510ccb12717bebfd7ded4841dc5872904"), looks := true }, kinds := [], alts := [], laidByText := true, laidKinds := [.data, .data, .data, .data, .sentinel, .sentinel, .pinned], laidTests := true, laidLooks := .later }
def SessManyCardSaid : Prop := Claim7.holds Tryz.pinned (.plain (OpenSpec.ofChange sessManySpec)) sessManyCard

/-- THE TIED CARD OF 'vernierlaw22.SessRises'. -/
def sessRisesCard : Claim7 := { stood := { row := sessRisesRow, standIns := [], harness := (true, "cabef3fae85911dd92feea080557db9510ccb12717bebfd7ded4841dc5872904"), looks := true }, kinds := [], alts := [], laidByText := true, laidKinds := [.data, .data, .data, .data, .sentinel, .sentinel, .pinned], laidTests := true, laidLooks := .later }
def SessRisesCardSaid : Prop := Claim7.holds Tryz.pinned (.plain (OpenSpec.ofChange sessRisesSpec)) sessRisesCard

/-- THE TIED CARD OF 'vernierlaw22.SessPlays'. -/
def sessPlaysCard : Claim7 := { stood := { row := sessPlaysRow, standIns := [], harness := (true, "cabef3fae85911dd92feea080557db9510ccb12717bebfd7ded4841dc5872904"), looks := true }, kinds := [], alts := [], laidByText := true, laidKinds := [.data, .data, .data, .data, .sentinel, .sentinel, .pinned], laidTests := true, laidLooks := .later }
def SessPlaysCardSaid : Prop := Claim7.holds Tryz.pinned (.plain (OpenSpec.ofChange sessPlaysSpec)) sessPlaysCard

/-- THE TIED CARD OF 'vernierlaw22.SessErrors'. -/
def sessErrorsCard : Claim7 := { stood := { row := sessErrorsRow, standIns := [], harness := (true, "cabef3fae85911dd92feea080557db9510ccb12717bebfd7ded4841dc5872904"), looks := true }, kinds := [], alts := [], laidByText := true, laidKinds := [.data, .data, .data, .data, .sentinel, .sentinel, .pinned], laidTests := true, laidLooks := .later }
def SessErrorsCardSaid : Prop := Claim7.holds Tryz.pinned (.plain (OpenSpec.ofChange sessErrorsSpec)) sessErrorsCard

/-- THE TIED CARD OF 'vernierlaw22.SessOfNothing'. -/
def sessOfNothingCard : Claim7 := { stood := { row := sessOfNothingRow, standIns := [], harness := (true, "cabef3fae85911dd92feea080557db9510ccb12717bebfd7ded4841dc5872904"), looks := true }, kinds := [], alts := [], laidByText := true, laidKinds := [.data, .data, .data, .data, .sentinel, .sentinel, .pinned], laidTests := true, laidLooks := .later }
def SessOfNothingCardSaid : Prop := Claim7.holds Tryz.pinned (.plain (OpenSpec.ofChange sessOfNothingSpec)) sessOfNothingCard

/-- THE SECOND FORM's CARD OF 'vernierlaw16.DataBlank'. -/
def dataBlankUptoCard : Claim7 := { stood := { row := dataBlankUptoRow, standIns := [], harness := (true, "cabef3fae85911dd92feea080557db9510ccb12717bebfd7ded4841dc5872904"), looks := true }, kinds := [], alts := [], laidByText := true, laidKinds := [.data, .data, .data, .data, .sentinel, .sentinel, .pinned], laidTests := true, laidLooks := .later }
def DataBlankUptoCardSaid : Prop := Claim7.holds Tryz.pinned (.plain (OpenSpec.upto dataBlankSpec)) dataBlankUptoCard

/-- THE SECOND FORM's CARD OF 'vernierlaw16.DataBack'. -/
def dataBackUptoCard : Claim7 := { stood := { row := dataBackUptoRow, standIns := [], harness := (true, "cabef3fae85911dd92feea080557db9510ccb12717bebfd7ded4841dc5872904"), looks := true }, kinds := [], alts := [], laidByText := true, laidKinds := [.data, .data, .data, .data, .sentinel, .sentinel, .pinned], laidTests := true, laidLooks := .later }
def DataBackUptoCardSaid : Prop := Claim7.holds Tryz.pinned (.plain (OpenSpec.upto dataBackSpec)) dataBackUptoCard

/-- THE SECOND FORM's CARD OF 'vernierlaw16.DataTens'. -/
def dataTensUptoCard : Claim7 := { stood := { row := dataTensUptoRow, standIns := [], harness := (true, "cabef3fae85911dd92feea080557db9510ccb12717bebfd7ded4841dc5872904"), looks := true }, kinds := [], alts := [], laidByText := true, laidKinds := [.data, .data, .data, .data, .sentinel, .sentinel, .pinned], laidTests := true, laidLooks := .later }
def DataTensUptoCardSaid : Prop := Claim7.holds Tryz.pinned (.plain (OpenSpec.upto dataTensSpec)) dataTensUptoCard

/-- THE SECOND FORM's CARD OF 'vernierlaw22.SessOwn'. -/
def sessOwnUptoCard : Claim7 := { stood := { row := sessOwnUptoRow, standIns := [], harness := (true, "cabef3fae85911dd92feea080557db9510ccb12717bebfd7ded4841dc5872904"), looks := true }, kinds := [], alts := [], laidByText := true, laidKinds := [.data, .data, .data, .data, .sentinel, .sentinel, .pinned], laidTests := true, laidLooks := .later }
def SessOwnUptoCardSaid : Prop := Claim7.holds Tryz.pinned (.plain (OpenSpec.upto sessOwnSpec)) sessOwnUptoCard

/-- THE SECOND FORM's CARD OF 'vernierlaw22.SessMany'. -/
def sessManyUptoCard : Claim7 := { stood := { row := sessManyUptoRow, standIns := [], harness := (true, "cabef3fae85911dd92feea080557db9510ccb12717bebfd7ded4841dc5872904"), looks := true }, kinds := [], alts := [], laidByText := true, laidKinds := [.data, .data, .data, .data, .sentinel, .sentinel, .pinned], laidTests := true, laidLooks := .later }
def SessManyUptoCardSaid : Prop := Claim7.holds Tryz.pinned (.plain (OpenSpec.upto sessManySpec)) sessManyUptoCard

/-- THE SECOND FORM's CARD OF 'vernierlaw22.SessRises'. -/
def sessRisesUptoCard : Claim7 := { stood := { row := sessRisesUptoRow, standIns := [], harness := (true, "cabef3fae85911dd92feea080557db9510ccb12717bebfd7ded4841dc5872904"), looks := true }, kinds := [], alts := [], laidByText := true, laidKinds := [.data, .data, .data, .data, .sentinel, .sentinel, .pinned], laidTests := true, laidLooks := .later }
def SessRisesUptoCardSaid : Prop := Claim7.holds Tryz.pinned (.plain (OpenSpec.upto sessRisesSpec)) sessRisesUptoCard

/-- THE SECOND FORM's CARD OF 'vernierlaw22.SessPlays'. -/
def sessPlaysUptoCard : Claim7 := { stood := { row := sessPlaysUptoRow, standIns := [], harness := (true, "cabef3fae85911dd92feea080557db9510ccb12717bebfd7ded4841dc5872904"), looks := true }, kinds := [], alts := [], laidByText := true, laidKinds := [.data, .data, .data, .data, .sentinel, .sentinel, .pinned], laidTests := true, laidLooks := .later }
def SessPlaysUptoCardSaid : Prop := Claim7.holds Tryz.pinned (.plain (OpenSpec.upto sessPlaysSpec)) sessPlaysUptoCard

/-- THE SECOND FORM's CARD OF 'vernierlaw22.SessErrors'. -/
def sessErrorsUptoCard : Claim7 := { stood := { row := sessErrorsUptoRow, standIns := [], harness := (true, "cabef3fae85911dd92feea080557db9510ccb12717bebfd7ded4841dc5872904"), looks := true }, kinds := [], alts := [], laidByText := true, laidKinds := [.data, .data, .data, .data, .sentinel, .sentinel, .pinned], laidTests := true, laidLooks := .later }
def SessErrorsUptoCardSaid : Prop := Claim7.holds Tryz.pinned (.plain (OpenSpec.upto sessErrorsSpec)) sessErrorsUptoCard

/-- THE SECOND FORM's CARD OF 'vernierlaw22.SessOfNothing'. -/
def sessOfNothingUptoCard : Claim7 := { stood := { row := sessOfNothingUptoRow, standIns := [], harness := (true, "cabef3fae85911dd92feea080557db9510ccb12717bebfd7ded4841dc5872904"), looks := true }, kinds := [], alts := [], laidByText := true, laidKinds := [.data, .data, .data, .data, .sentinel, .sentinel, .pinned], laidTests := true, laidLooks := .later }
def SessOfNothingUptoCardSaid : Prop := Claim7.holds Tryz.pinned (.plain (OpenSpec.upto sessOfNothingSpec)) sessOfNothingUptoCard
end Rows
end Go.Proofs.YtkkmnjhecjkhgaaGreatDoor
