/-
  DERIVED. GIVEN WITH THE SEED: THE CARDS: each row of YtdahehdomajbgaaGreatDoorRows.lean that lists a variable, with what it lists TIED to the program's text (the seventh form; the later family's looks); each row that meets fmt, with fmt's text TOLD by the authors' own Lean function (tested against real Go, not proved from fmt's source: count such statements apart). THE CARD IS WHAT COUNTS. Prove the row's statement (the work); the ties are given (YtdahehdomajbgaaGreatDoorTie.lean); close each card by the builder's one call (the guide's Derived/Test/ToyasCard.lean, 'card_holds'). Laid BY PROGRAM, IN A SANDBOX (cutbox-door.mjs). By AI agents, Wed Nov 11 2026. No macro, syntax, notation, axiom, sorry.
-/
import Derived.Test.YtdahehdomajbgaaGreatDoorRows
import GoSem.ClaimSeven
namespace Go.Proofs.YtdahehdomajbgaaGreatDoor
namespace Rows

/-- THE TIED CARD OF 'vernierlaw22.SessOwn'. -/
def sessOwnCard : Claim7 := { stood := { row := sessOwnRow, standIns := [], harness := (true, "6d92554f95e6bbac46eb3cf442176f70267b4edba3b11c90cc53d7348c9f6295"), looks := true }, kinds := [], alts := [], laidByText := true, laidKinds := [.data, .data, .data, .data, .sentinel, .sentinel, .pinned], laidTests := true, laidLooks := .later }
def SessOwnCardSaid : Prop := Claim7.holds Tryz.pinned (.plain (OpenSpec.ofChange sessOwnSpec)) sessOwnCard

/-- THE SECOND FORM's CARD OF 'vernierlaw22.SessOwn'. -/
def sessOwnUptoCard : Claim7 := { stood := { row := sessOwnUptoRow, standIns := [], harness := (true, "6d92554f95e6bbac46eb3cf442176f70267b4edba3b11c90cc53d7348c9f6295"), looks := true }, kinds := [], alts := [], laidByText := true, laidKinds := [.data, .data, .data, .data, .sentinel, .sentinel, .pinned], laidTests := true, laidLooks := .later }
def SessOwnUptoCardSaid : Prop := Claim7.holds Tryz.pinned (.plain (OpenSpec.upto sessOwnSpec)) sessOwnUptoCard
end Rows
end Go.Proofs.YtdahehdomajbgaaGreatDoor
