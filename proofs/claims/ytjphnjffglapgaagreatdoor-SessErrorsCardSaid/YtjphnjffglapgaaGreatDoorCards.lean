/-
  DERIVED. GIVEN WITH THE SEED: THE CARDS: each row of YtjphnjffglapgaaGreatDoorRows.lean that lists a variable, with what it lists TIED to the program's text (the seventh form; the later family's looks); each row that meets fmt, with fmt's text TOLD by the authors' own Lean function (tested against real Go, not proved from fmt's source: count such statements apart). THE CARD IS WHAT COUNTS. Prove the row's statement (the work); the ties are given (YtjphnjffglapgaaGreatDoorTie.lean); close each card by the builder's one call (the guide's Derived/Test/ToyasCard.lean, 'card_holds'). Laid BY PROGRAM, IN A SANDBOX (cutbox-door.mjs). By AI agents, Wed Nov 11 2026. No macro, syntax, notation, axiom, sorry.
-/
import Derived.Test.YtjphnjffglapgaaGreatDoorRows
import GoSem.ClaimSeven
namespace Go.Proofs.YtjphnjffglapgaaGreatDoor
namespace Rows

/-- THE TIED CARD OF 'vernierlaw22.SessErrors'. -/
def sessErrorsCard : Claim7 := { stood := { row := sessErrorsRow, standIns := [], harness := (true, "744aaf956d2a47a1e5b082e9576e7140da9088f3d1ae80c1c01cd20d76016cd2"), looks := true }, kinds := [], alts := [], laidByText := true, laidKinds := [.data, .data, .data, .data, .sentinel, .sentinel, .pinned], laidTests := true, laidLooks := .later }
def SessErrorsCardSaid : Prop := Claim7.holds Tryz.pinned (.plain (OpenSpec.ofChange sessErrorsSpec)) sessErrorsCard

/-- THE SECOND FORM's CARD OF 'vernierlaw22.SessErrors'. -/
def sessErrorsUptoCard : Claim7 := { stood := { row := sessErrorsUptoRow, standIns := [], harness := (true, "744aaf956d2a47a1e5b082e9576e7140da9088f3d1ae80c1c01cd20d76016cd2"), looks := true }, kinds := [], alts := [], laidByText := true, laidKinds := [.data, .data, .data, .data, .sentinel, .sentinel, .pinned], laidTests := true, laidLooks := .later }
def SessErrorsUptoCardSaid : Prop := Claim7.holds Tryz.pinned (.plain (OpenSpec.upto sessErrorsSpec)) sessErrorsUptoCard
end Rows
end Go.Proofs.YtjphnjffglapgaaGreatDoor
