/-
  DERIVED. GIVEN WITH THE SEED: THE CARDS: each row of YtcfjiolldehegaaGreatDoorRows.lean that lists a variable, with what it lists TIED to the program's text (the seventh form; the later family's looks); each row that meets fmt, with fmt's text TOLD by the authors' own Lean function (tested against real Go, not proved from fmt's source: count such statements apart). THE CARD IS WHAT COUNTS. Prove the row's statement (the work); the ties are given (YtcfjiolldehegaaGreatDoorTie.lean); close each card by the builder's one call (the guide's Derived/Test/ToyasCard.lean, 'card_holds'). Laid BY PROGRAM, IN A SANDBOX (cutbox-door.mjs). By AI agents, Wed Nov 11 2026. No macro, syntax, notation, axiom, sorry.
-/
import Derived.Test.YtcfjiolldehegaaGreatDoorRows
import GoSem.ClaimSeven
namespace Go.Proofs.YtcfjiolldehegaaGreatDoor
namespace Rows

/-- THE TIED CARD OF 'vernierlaw23.ToolBlank'. -/
def toolBlankCard : Claim7 := { stood := { row := toolBlankRow, standIns := [], harness := (true, "5c9f0fa64a653a0e782614a294423bff12ab82d99a8c1085850772e8fe0590aa"), looks := true }, kinds := [], alts := [], laidByText := true, laidKinds := [.data, .data, .data, .data, .sentinel, .sentinel, .pinned], laidTests := true, laidLooks := .later }
def ToolBlankCardSaid : Prop := Claim7.holds Tryz.pinned (.plain (OpenSpec.ofChange toolBlankSpec)) toolBlankCard

/-- THE SECOND FORM's CARD OF 'vernierlaw23.ToolBlank'. -/
def toolBlankUptoCard : Claim7 := { stood := { row := toolBlankUptoRow, standIns := [], harness := (true, "5c9f0fa64a653a0e782614a294423bff12ab82d99a8c1085850772e8fe0590aa"), looks := true }, kinds := [], alts := [], laidByText := true, laidKinds := [.data, .data, .data, .data, .sentinel, .sentinel, .pinned], laidTests := true, laidLooks := .later }
def ToolBlankUptoCardSaid : Prop := Claim7.holds Tryz.pinned (.plain (OpenSpec.upto toolBlankSpec)) toolBlankUptoCard
end Rows
end Go.Proofs.YtcfjiolldehegaaGreatDoor
