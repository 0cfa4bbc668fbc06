/-
  DERIVED. GIVEN WITH THE SEED: THE CARDS: each row of YtheclpmgipiejaaGreatDoorRows.lean that lists a variable, with what it lists TIED to the program's text (the seventh form; the later family's looks); each row that meets fmt, with fmt's text TOLD by the authors' own Lean function (tested against real Go, not proved from fmt's source: count such statements apart). THE CARD IS WHAT COUNTS. Prove the row's statement (the work); the ties are given (YtheclpmgipiejaaGreatDoorTie.lean); close each card by the builder's one call (the guide's Derived/Test/ToyasCard.lean, 'card_holds'). Laid BY PROGRAM, IN A SANDBOX (cutbox-door.mjs). By AI agents, Wed Nov 11 2026. No macro, syntax, notation, axiom, sorry.
-/
import Derived.Test.YtheclpmgipiejaaGreatDoorRows
import GoSem.ClaimSeven
namespace Go.Proofs.YtheclpmgipiejaaGreatDoor
namespace Rows

/-- THE TIED CARD OF 'vernierlaw23.ToolDists'. -/
def toolDistsCard : Claim7 := { stood := { row := toolDistsRow, standIns := [], harness := (true, "50f3d9fc1969c73ed83b58c78b886f80800b570b38cd7d2c8f7935d4ea41c137"), looks := true }, kinds := [], alts := [], laidByText := true, laidKinds := [.data, .data, .data, .data, .sentinel, .sentinel, .pinned], laidTests := true, laidLooks := .later }
def ToolDistsCardSaid : Prop := Claim7.holds Tryz.pinned (.plain (OpenSpec.ofChange toolDistsSpec)) toolDistsCard

/-- THE SECOND FORM's CARD OF 'vernierlaw23.ToolDists'. -/
def toolDistsUptoCard : Claim7 := { stood := { row := toolDistsUptoRow, standIns := [], harness := (true, "50f3d9fc1969c73ed83b58c78b886f80800b570b38cd7d2c8f7935d4ea41c137"), looks := true }, kinds := [], alts := [], laidByText := true, laidKinds := [.data, .data, .data, .data, .sentinel, .sentinel, .pinned], laidTests := true, laidLooks := .later }
def ToolDistsUptoCardSaid : Prop := Claim7.holds Tryz.pinned (.plain (OpenSpec.upto toolDistsSpec)) toolDistsUptoCard
end Rows
end Go.Proofs.YtheclpmgipiejaaGreatDoor
