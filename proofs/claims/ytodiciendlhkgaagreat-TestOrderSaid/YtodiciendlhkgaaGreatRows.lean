/-
  No cell of these rows narrows 'for every input' (looked for: loops, veiled, ifaces, maps, wideKeys, modest, calm, conditions, laid).
  DERIVED. THE GIVEN ROWS OF THIS SEAT. 3 by the template 'for every input the law returns true; each argument reads behind the call as it read before'; 0 by the template 'total and deterministic' (their statements: YtodiciendlhkgaaGreatTotals.lean).
  GIVEN WITH THE SEED: the statements are not yours to turn. If you find one false, say at which input.
  Laid BY PROGRAM, IN A SANDBOX (cutbox-rows.mjs): the forced cells as the released guide's own fill.sh prints them over the translation ccbb0c579231c5b4… (all of the seat's roots in one cut). By AI agents, Wed Nov 11 2026. No macro, syntax, notation, axiom, sorry.
-/
import Derived.Test.YtodiciendlhkgaaGreatChecked
import GoSem.Claim
import GoSem.ClaimJoined
import GoSem.ClaimMapViews
import Derived.JoinedTies
import Derived.KernelRfl
namespace Go.Proofs.YtodiciendlhkgaaGreat
/- THE CELL 'sum', in the pinned program and in every row, IS THE sha256 OF THE DUMP (.gsa) THAT YtodiciendlhkgaaGreatProg.lean LOADS. Nothing in Lean hashes anything: it is a label: what it is worth is what the hold of that sum in a sandbox is worth. -/
noncomputable def Tryz.pinned : Pinned := { name := "ytodiciendlhkgaagreat", sum := "ccbb0c579231c5b46cb23ac1884cd96aa9ba065061bd7f96d3a4c0c962c4b20e", checked := Tryz.checked }
namespace Rows
def none {H : Type} : Left H := { results := [], args := [] }

/-- 'vernierlaw14.DistSquares': WHATEVER THE INPUT: true; the input reads as it did. -/
def distSquaresSpec : ChangeSpec := { name := "distSquares", fn := fun _ => fun
  | [d1, d2, d3] => { results := [.lit (.bool true)], args := [d1, d2, d3] }
  | _ => none }
def distSquaresRow : OpenClaim := { program := "ytodiciendlhkgaagreat", sum := "ccbb0c579231c5b46cb23ac1884cd96aa9ba065061bd7f96d3a4c0c962c4b20e", func := "vernier/vernierlaw14.DistSquares", spec := "distSquares", unfollowed := true, recurses := true, named := ["math/bits.overflowError"], apart := false }
def DistSquaresSaid : Prop := distSquaresRow.holds Tryz.pinned (OpenSpec.ofChange distSquaresSpec)

/-- ITS FALSE NEIGHBOUR: 'it returns false'. Refute it at one input. -/
def distSquaresWrong : ChangeSpec := { name := "distSquares", fn := fun _ => fun
  | [d1, d2, d3] => { results := [.lit (.bool false)], args := [d1, d2, d3] }
  | _ => none }
def DistSquaresWrongFalsely : Prop := distSquaresRow.holds Tryz.pinned (OpenSpec.ofChange distSquaresWrong)

/-- 'vernierlaw14.DistParts': WHATEVER THE INPUT: true; the input reads as it did. -/
def distPartsSpec : ChangeSpec := { name := "distParts", fn := fun _ => fun
  | [d1, d2, d3, d4] => { results := [.lit (.bool true)], args := [d1, d2, d3, d4] }
  | _ => none }
def distPartsRow : OpenClaim := { program := "ytodiciendlhkgaagreat", sum := "ccbb0c579231c5b46cb23ac1884cd96aa9ba065061bd7f96d3a4c0c962c4b20e", func := "vernier/vernierlaw14.DistParts", spec := "distParts", unfollowed := true, recurses := true, named := ["math/bits.overflowError"], apart := false }
def DistPartsSaid : Prop := distPartsRow.holds Tryz.pinned (OpenSpec.ofChange distPartsSpec)

/-- ITS FALSE NEIGHBOUR: 'it returns false'. Refute it at one input. -/
def distPartsWrong : ChangeSpec := { name := "distParts", fn := fun _ => fun
  | [d1, d2, d3, d4] => { results := [.lit (.bool false)], args := [d1, d2, d3, d4] }
  | _ => none }
def DistPartsWrongFalsely : Prop := distPartsRow.holds Tryz.pinned (OpenSpec.ofChange distPartsWrong)

/-- 'vernierlaw19.TestOrder': WHATEVER THE INPUT: true; the input reads as it did. -/
def testOrderSpec : ChangeSpec := { name := "testOrder", fn := fun _ => fun
  | [d1, d2, d3, d4] => { results := [.lit (.bool true)], args := [d1, d2, d3, d4] }
  | _ => none }
def testOrderRow : OpenClaim := { program := "ytodiciendlhkgaagreat", sum := "ccbb0c579231c5b46cb23ac1884cd96aa9ba065061bd7f96d3a4c0c962c4b20e", func := "vernier/vernierlaw19.TestOrder", spec := "testOrder", unfollowed := true, recurses := true, named := ["math/bits.overflowError"], apart := false }
def TestOrderSaid : Prop := testOrderRow.holds Tryz.pinned (OpenSpec.ofChange testOrderSpec)

/-- ITS FALSE NEIGHBOUR: 'it returns false'. Refute it at one input. -/
def testOrderWrong : ChangeSpec := { name := "testOrder", fn := fun _ => fun
  | [d1, d2, d3, d4] => { results := [.lit (.bool false)], args := [d1, d2, d3, d4] }
  | _ => none }
def TestOrderWrongFalsely : Prop := testOrderRow.holds Tryz.pinned (OpenSpec.ofChange testOrderWrong)

/- THE SECOND FORM. 'bulk': how many values and letters a reading holds, each counted each time it is reached (what is shared counts as often as it is met; a slice's spare places count too). A statement '..UptoSaid' is the law's where the arguments, and the package variables that the reading takes, are together of bulk at most 1048576: NARROWER than '..Said'. Prove '..Said' where nothing that the law and all that it calls make is longer than what came in: it says more and counts as full. Else prove '..UptoSaid'. A law counts once. -/
mutual
def uptoBulk {H : Type} : DataW H → Nat
  | .lit (.string bytes) => bytes.length + 1
  | .lit _ => 1
  | .nil => 1
  | .ptr d => uptoBulk d + 1
  | .slice elems spare => uptoBulkAll elems + uptoBulkAll spare + 1
  | .agg parts => uptoBulkAll parts + 1
  | .iface _ d => uptoBulk d + 1
  | .map entries => uptoBulkEntries entries + 1
  | .held _ => 1
def uptoBulkAll {H : Type} : List (DataW H) → Nat
  | [] => 0
  | d :: r => uptoBulk d + uptoBulkAll r
def uptoBulkEntries {H : Type} : List (Lit × DataW H) → Nat
  | [] => 0
  | x :: r => uptoBulkEntry x + uptoBulkEntries r
def uptoBulkEntry {H : Type} : Lit × DataW H → Nat
  | (.string bytes, d) => bytes.length + uptoBulk d + 1
  | (_, d) => uptoBulk d + 1
 end
def uptoSmall : (H : Type) → List (DataW H) → Bool := fun _ ds => decide (uptoBulkAll ds ≤ 1048576)
def OpenSpec.upto (s : _root_.Go.ChangeSpec) : _root_.Go.OpenSpec := { _root_.Go.OpenSpec.ofChange s with cond := some uptoSmall }

/-- 'vernierlaw14.DistSquares', WHERE WHAT IT READS IS OF BULK AT MOST 1048576: true; the input reads as it did. -/
def distSquaresUptoRow : OpenClaim := { program := "ytodiciendlhkgaagreat", sum := "ccbb0c579231c5b46cb23ac1884cd96aa9ba065061bd7f96d3a4c0c962c4b20e", func := "vernier/vernierlaw14.DistSquares", spec := "distSquares", unfollowed := true, recurses := true, named := ["math/bits.overflowError"], apart := false, narrowed := true }
def DistSquaresUptoSaid : Prop := distSquaresUptoRow.holds Tryz.pinned (OpenSpec.upto distSquaresSpec)

/-- 'vernierlaw14.DistParts', WHERE WHAT IT READS IS OF BULK AT MOST 1048576: true; the input reads as it did. -/
def distPartsUptoRow : OpenClaim := { program := "ytodiciendlhkgaagreat", sum := "ccbb0c579231c5b46cb23ac1884cd96aa9ba065061bd7f96d3a4c0c962c4b20e", func := "vernier/vernierlaw14.DistParts", spec := "distParts", unfollowed := true, recurses := true, named := ["math/bits.overflowError"], apart := false, narrowed := true }
def DistPartsUptoSaid : Prop := distPartsUptoRow.holds Tryz.pinned (OpenSpec.upto distPartsSpec)

/-- 'vernierlaw19.TestOrder', WHERE WHAT IT READS IS OF BULK AT MOST 1048576: true; the input reads as it did. -/
def testOrderUptoRow : OpenClaim := { program := "ytodiciendlhkgaagreat", sum := "ccbb0c579231c5b46cb23ac1884cd96aa9ba065061bd7f96d3a4c0c962c4b20e", func := "vernier/vernierlaw19.TestOrder", spec := "testOrder", unfollowed := true, recurses := true, named := ["math/bits.overflowError"], apart := false, narrowed := true }
def TestOrderUptoSaid : Prop := testOrderUptoRow.holds Tryz.pinned (OpenSpec.upto testOrderSpec)

end Rows
end Go.Proofs.YtodiciendlhkgaaGreat
