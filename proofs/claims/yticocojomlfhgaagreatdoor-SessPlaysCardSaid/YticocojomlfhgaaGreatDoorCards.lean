/-
  DERIVED. GIVEN WITH THE SEED: THE CARDS: each row of YticocojomlfhgaaGreatDoorRows.lean that lists a variable, with what it lists TIED to the program's text (the seventh form; the later family's looks); each row that meets fmt, with fmt's text TOLD by the authors' own Lean function (tested against real Go, not proved from fmt's source: count such statements apart). THE CARD IS WHAT COUNTS. Prove the row's statement (the work); the ties are given (YticocojomlfhgaaGreatDoorTie.lean); close each card by the builder's one call (the guide's Derived/Test/ToyasCard.lean, 'card_holds'). Laid BY PROGRAM, IN A SANDBOX (cutbox-door.mjs). By AI agents, Wed Nov 11 2026. No macro, syntax, notation, axiom, sorry.
-/
import Derived.Test.YticocojomlfhgaaGreatDoorRows
import GoSem.ClaimSeven
namespace Go.Proofs.YticocojomlfhgaaGreatDoor
namespace Rows

/-- THE TIED CARD OF 'vernierlaw22.SessOwn'. -/
def sessOwnCard : Claim7 := { stood := { row := sessOwnRow, standIns := [], harness := (true, "0ff720ca0afda7304d47533105e7a6a3c2f847fcee3ca53430ef150b245eb8cf"), looks := true }, kinds := [], alts := [], laidByText := true, laidKinds := [.data, .data, .data, .data, .sentinel, .sentinel, .pinned], laidTests := true, laidLooks := .later }
def SessOwnCardSaid : Prop := Claim7.holds Tryz.pinned (.plain (OpenSpec.ofChange sessOwnSpec)) sessOwnCard

/-- THE TIED CARD OF 'vernierlaw22.SessMany'. -/
def sessManyCard : Claim7 := { stood := { row := sessManyRow, standIns := [], harness := (true, "0ff720ca0afda7304d47533105e7a6a3c2f847fcee3ca53430ef150b245eb8cf"), looks := true }, kinds := [], alts := [], laidByText := true, laidKinds := [.data, .data, .data, .data, .sentinel, .sentinel, .pinned], laidTests := true, laidLooks := .later }
def SessManyCardSaid : Prop := Claim7.holds Tryz.pinned (.plain (OpenSpec.ofChange sessManySpec)) sessManyCard

/-- THE TIED CARD OF 'vernierlaw22.SessRises'. -/
def sessRisesCard : Claim7 := { stood := { row := sessRisesRow, standIns := [], harness := (true, "0ff720ca0afda7304d47533105e7a6a3c2f847fcee3ca53430ef150b245eb8cf"), looks := true }, kinds := [], alts := [], laidByText := true, laidKinds := [.data, .data, .data, .data, .sentinel, .sentinel, .pinned], laidTests := true, laidLooks := .later }
def SessRisesCardSaid : Prop := Claim7.holds Tryz.pinned (.plain (OpenSpec.ofChange sessRisesSpec)) sessRisesCard

/-- THE TIED CARD OF 'vernierlaw22.SessPlays'. -/
def sessPlaysCard : Claim7 := { stood := { row := sessPlaysRow, standIns := [], harness := (true, "0ff720ca0afda7304d47533105e7a6a3c2f847fcee3ca53430ef150b245eb8cf"), looks := true }, kinds := [], alts := [], laidByText := true, laidKinds := [.data, .data, .data, .data, .sentinel, .sentinel, .pinned], laidTests := true, laidLooks := .later }
def SessPlaysCardSaid : Prop := Claim7.holds Tryz.pinned (.plain (OpenSpec.ofChange sessPlaysSpec)) sessPlaysCard

/-- THE TIED CARD OF 'vernierlaw22.SessErrors'. -/
def sessErrorsCard : Claim7 := { stood := { row := sessErrorsRow, standIns := [], harness := (true, "0ff720ca0afda7304d47533105e7a6a3c2f847fcee3ca53430ef150b245eb8cf"), looks := true }, kinds := [], alts := [], laidByText := true, laidKinds := [.data, .data, .data, .data, .sentinel, .sentinel, .pinned], laidTests := true, laidLooks := .later }
def SessErrorsCardSaid : Prop := Claim7.holds Tryz.pinned (.plain (OpenSpec.ofChange sessErrorsSpec)) sessErrorsCard

/-- THE TIED CARD OF 'vernierlaw22.SessOfNothing'. -/
def sessOfNothingCard : Claim7 := { stood := { row := sessOfNothingRow, standIns := [], harness := (true, "0ff720ca0afda7304d47533105e7a6a3c2f847fcee3ca53430ef150b245eb8cf"), looks := true }, kinds := [], alts := [], laidByText := true, laidKinds := [.data, .data, .data, .data, .sentinel, .sentinel, .pinned], laidTests := true, laidLooks := .later }
def SessOfNothingCardSaid : Prop := Claim7.holds Tryz.pinned (.plain (OpenSpec.ofChange sessOfNothingSpec)) sessOfNothingCard

/-- THE SECOND FORM's CARD OF 'vernierlaw22.SessOwn'. -/
def sessOwnUptoCard : Claim7 := { stood := { row := sessOwnUptoRow, standIns := [], harness := (true, "0ff720ca0afda7304d47533105e7a6a3c2f847fcee3ca53430ef150b245eb8cf"), looks := true }, kinds := [], alts := [], laidByText := true, laidKinds := [.data, .data, .data, .data, .sentinel, .sentinel, .pinned], laidTests := true, laidLooks := .later }
def SessOwnUptoCardSaid : Prop := Claim7.holds Tryz.pinned (.plain (OpenSpec.upto sessOwnSpec)) sessOwnUptoCard

/-- THE SECOND FORM's CARD OF 'vernierlaw22.SessMany'. -/
def sessManyUptoCard : Claim7 := { stood := { row := sessManyUptoRow, standIns := [], harness := (true, "0ff720ca0afda7304d47533105e7a6a3c2f847fcee3ca53430ef150b245eb8cf"), looks := true }, kinds := [], alts := [], laidByText := true, laidKinds := [.data, .data, .data, .data, .sentinel, .sentinel, .pinned], laidTests := true, laidLooks := .later }
def SessManyUptoCardSaid : Prop := Claim7.holds Tryz.pinned (.plain (OpenSpec.upto sessManySpec)) sessManyUptoCard

/-- THE SECOND FORM's CARD OF 'vernierlaw22.SessRises'. -/
def sessRisesUptoCard : Claim7 := { stood := { row := sessRisesUptoRow, standIns := [], harness := (true, "0ff720ca0afda7304d47533105e7a6a3c2f847fcee3ca53430ef150b245eb8cf"), looks := true }, kinds := [], alts := [], laidByText := true, laidKinds := [.data, .data, .data, .data, .sentinel, .sentinel, .pinned], laidTests := true, laidLooks := .later }
def SessRisesUptoCardSaid : Prop := Claim7.holds Tryz.pinned (.plain (OpenSpec.upto sessRisesSpec)) sessRisesUptoCard

/-- THE SECOND FORM's CARD OF 'vernierlaw22.SessPlays'. -/
def sessPlaysUptoCard : Claim7 := { stood := { row := sessPlaysUptoRow, standIns := [], harness := (true, "0ff720ca0afda7304d47533105e7a6a3c2f847fcee3ca53430ef150b245eb8cf"), looks := true }, kinds := [], alts := [], laidByText := true, laidKinds := [.data, .data, .data, .data, .sentinel, .sentinel, .pinned], laidTests := true, laidLooks := .later }
def SessPlaysUptoCardSaid : Prop := Claim7.holds Tryz.pinned (.plain (OpenSpec.upto sessPlaysSpec)) sessPlaysUptoCard

/-- THE SECOND FORM's CARD OF 'vernierlaw22.SessErrors'. -/
def sessErrorsUptoCard : Claim7 := { stood := { row := sessErrorsUptoRow, standIns := [], harness := (true, "0ff720ca0afda7304d47533105e7a6a3c2f847fcee3ca53430ef150b245eb8cf"), looks := true }, kinds := [], alts := [], laidByText := true, laidKinds := [.data, .data, .data, .data, .sentinel, .sentinel, .pinned], laidTests := true, laidLooks := .later }
def SessErrorsUptoCardSaid : Prop := Claim7.holds Tryz.pinned (.plain (OpenSpec.upto sessErrorsSpec)) sessErrorsUptoCard

/-- THE SECOND FORM's CARD OF 'vernierlaw22.SessOfNothing'. -/
def sessOfNothingUptoCard : Claim7 := { stood := { row := sessOfNothingUptoRow, standIns := [], harness := (true, "0ff720ca0afda7304d47533105e7a6a3c2f847fcee3ca53430ef150b245eb8cf"), looks := true }, kinds := [], alts := [], laidByText := true, laidKinds := [.data, .data, .data, .data, .sentinel, .sentinel, .pinned], laidTests := true, laidLooks := .later }
def SessOfNothingUptoCardSaid : Prop := Claim7.holds Tryz.pinned (.plain (OpenSpec.upto sessOfNothingSpec)) sessOfNothingUptoCard
end Rows
end Go.Proofs.YticocojomlfhgaaGreatDoor
