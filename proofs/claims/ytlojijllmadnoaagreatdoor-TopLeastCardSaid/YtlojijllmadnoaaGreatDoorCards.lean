/-
  DERIVED. GIVEN WITH THE SEED: THE CARDS: each row of YtlojijllmadnoaaGreatDoorRows.lean that lists a variable, with what it lists TIED to the program's text (the seventh form; the later family's looks); each row that meets fmt, with fmt's text TOLD by the authors' own Lean function (tested against real Go, not proved from fmt's source: count such statements apart). THE CARD IS WHAT COUNTS. Prove the row's statement (the work); the ties are given (YtlojijllmadnoaaGreatDoorTie.lean); close each card by the builder's one call (the guide's Derived/Test/ToyasCard.lean, 'card_holds'). Laid BY PROGRAM, IN A SANDBOX (cutbox-door.mjs). By AI agents, Wed Nov 11 2026. No macro, syntax, notation, axiom, sorry.
-/
import Derived.Test.YtlojijllmadnoaaGreatDoorRows
import GoSem.ClaimSeven
namespace Go.Proofs.YtlojijllmadnoaaGreatDoor
namespace Rows

/-- THE TIED CARD OF 'verniertop.TopLeast'. -/
def topLeastCard : Claim7 := { stood := { row := topLeastRow, standIns := [], harness := (true, "3be49f6ca99602a1f7f2bf779786048e62e2560d4fa3a7b47cc9b95d8989c580"), looks := true }, kinds := [], alts := [], laidByText := true, laidKinds := [.data, .data, .data, .data, .sentinel, .sentinel, .pinned], laidTests := true, laidLooks := .later }
def TopLeastCardSaid : Prop := Claim7.holds Tryz.pinned (.plain (OpenSpec.ofChange topLeastSpec)) topLeastCard

/-- THE SECOND FORM's CARD OF 'verniertop.TopLeast'. -/
def topLeastUptoCard : Claim7 := { stood := { row := topLeastUptoRow, standIns := [], harness := (true, "3be49f6ca99602a1f7f2bf779786048e62e2560d4fa3a7b47cc9b95d8989c580"), looks := true }, kinds := [], alts := [], laidByText := true, laidKinds := [.data, .data, .data, .data, .sentinel, .sentinel, .pinned], laidTests := true, laidLooks := .later }
def TopLeastUptoCardSaid : Prop := Claim7.holds Tryz.pinned (.plain (OpenSpec.upto topLeastSpec)) topLeastUptoCard
end Rows
end Go.Proofs.YtlojijllmadnoaaGreatDoor
