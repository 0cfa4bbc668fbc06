/-
  DERIVED. GIVEN WITH THE SEED: THE CARDS: each row of YtdgckaikaeccaaaGreatDoorRows.lean that lists a variable, with what it lists TIED to the program's text (the seventh form; the later family's looks); each row that meets fmt, with fmt's text TOLD by the authors' own Lean function (tested against real Go, not proved from fmt's source: count such statements apart). THE CARD IS WHAT COUNTS. Prove the row's statement (the work); the ties are given (YtdgckaikaeccaaaGreatDoorTie.lean); close each card by the builder's one call (the guide's Derived/Test/ToyasCard.lean, 'card_holds'). Laid BY PROGRAM, IN A SANDBOX (cutbox-door.mjs). By AI agents, Wed Nov 11 2026. No macro, syntax, notation, axiom, sorry.
-/
import Derived.Test.YtdgckaikaeccaaaGreatDoorRows
import GoSem.ClaimSeven
namespace Go.Proofs.YtdgckaikaeccaaaGreatDoor
namespace Rows

/-- THE TIED CARD OF 'verniertop.TopDegenerate'. -/
def topDegenerateCard : Claim7 := { stood := { row := topDegenerateRow, standIns := [], harness := (true, "d43e0d2cb398fe85b18ffa7b2a69df383a6aa1aa634142a43aec503a49a5edf4"), looks := true }, kinds := [], alts := [], laidByText := true, laidKinds := [.data, .data, .data, .data, .sentinel, .sentinel, .pinned], laidTests := true, laidLooks := .later }
def TopDegenerateCardSaid : Prop := Claim7.holds Tryz.pinned (.plain (OpenSpec.ofChange topDegenerateSpec)) topDegenerateCard

/-- THE SECOND FORM's CARD OF 'verniertop.TopDegenerate'. -/
def topDegenerateUptoCard : Claim7 := { stood := { row := topDegenerateUptoRow, standIns := [], harness := (true, "d43e0d2cb398fe85b18ffa7b2a69df383a6aa1aa634142a43aec503a49a5edf4"), looks := true }, kinds := [], alts := [], laidByText := true, laidKinds := [.data, .data, .data, .data, .sentinel, .sentinel, .pinned], laidTests := true, laidLooks := .later }
def TopDegenerateUptoCardSaid : Prop := Claim7.holds Tryz.pinned (.plain (OpenSpec.upto topDegenerateSpec)) topDegenerateUptoCard
end Rows
end Go.Proofs.YtdgckaikaeccaaaGreatDoor
