/-
  No cell of these rows narrows 'for every input' (looked for: loops, veiled, ifaces, maps, wideKeys, modest, calm, conditions, laid).
  DERIVED. THE GIVEN ROWS OF THIS SEAT. 4 by the template 'for every input the law returns true; each argument reads behind the call as it read before'; 0 by the template 'total and deterministic' (their statements: YthbjgdmcnonofaaGreatTotals.lean).
  GIVEN WITH THE SEED: the statements are not yours to turn. If you find one false, say at which input.
  Laid BY PROGRAM, IN A SANDBOX (cutbox-rows.mjs): the forced cells as the released guide's own fill.sh prints them over the translation f58ca3da6f22683b… (all of the seat's roots in one cut). By AI agents, Wed Nov 11 2026. No macro, syntax, notation, axiom, sorry.
-/
import Derived.Test.YthbjgdmcnonofaaGreatChecked
import GoSem.Claim
import GoSem.ClaimJoined
import GoSem.ClaimMapViews
import Derived.JoinedTies
import Derived.KernelRfl
namespace Go.Proofs.YthbjgdmcnonofaaGreat
/- THE CELL 'sum', in the pinned program and in every row, IS THE sha256 OF THE DUMP (.gsa) THAT YthbjgdmcnonofaaGreatProg.lean LOADS. Nothing in Lean hashes anything: it is a label: what it is worth is what the hold of that sum in a sandbox is worth. -/
noncomputable def Tryz.pinned : Pinned := { name := "ythbjgdmcnonofaagreat", sum := "f58ca3da6f22683bc2cb01cfbc168401296f01031d9919dd5710f769e01a3f38", checked := Tryz.checked }
namespace Rows
def none {H : Type} : Left H := { results := [], args := [] }

/-- 'vernierlaw9.GamBalls': WHATEVER THE INPUT: true; the input reads as it did. -/
def gamBallsSpec : ChangeSpec := { name := "gamBalls", fn := fun _ => fun
  | [d1, d2, d3] => { results := [.lit (.bool true)], args := [d1, d2, d3] }
  | _ => none }
def gamBallsRow : OpenClaim := { program := "ythbjgdmcnonofaagreat", sum := "f58ca3da6f22683bc2cb01cfbc168401296f01031d9919dd5710f769e01a3f38", func := "vernier/vernierlaw9.GamBalls", spec := "gamBalls", unfollowed := true, recurses := true, named := ["math/bits.overflowError"], apart := false }
def GamBallsSaid : Prop := gamBallsRow.holds Tryz.pinned (OpenSpec.ofChange gamBallsSpec)

/-- ITS FALSE NEIGHBOUR: 'it returns false'. Refute it at one input. -/
def gamBallsWrong : ChangeSpec := { name := "gamBalls", fn := fun _ => fun
  | [d1, d2, d3] => { results := [.lit (.bool false)], args := [d1, d2, d3] }
  | _ => none }
def GamBallsWrongFalsely : Prop := gamBallsRow.holds Tryz.pinned (OpenSpec.ofChange gamBallsWrong)

/-- 'vernierlaw12.IncbSides': WHATEVER THE INPUT: true; the input reads as it did. -/
def incbSidesSpec : ChangeSpec := { name := "incbSides", fn := fun _ => fun
  | [d1, d2, d3, d4] => { results := [.lit (.bool true)], args := [d1, d2, d3, d4] }
  | _ => none }
def incbSidesRow : OpenClaim := { program := "ythbjgdmcnonofaagreat", sum := "f58ca3da6f22683bc2cb01cfbc168401296f01031d9919dd5710f769e01a3f38", func := "vernier/vernierlaw12.IncbSides", spec := "incbSides", unfollowed := true, recurses := true, named := ["math/bits.overflowError"], apart := false }
def IncbSidesSaid : Prop := incbSidesRow.holds Tryz.pinned (OpenSpec.ofChange incbSidesSpec)

/-- ITS FALSE NEIGHBOUR: 'it returns false'. Refute it at one input. -/
def incbSidesWrong : ChangeSpec := { name := "incbSides", fn := fun _ => fun
  | [d1, d2, d3, d4] => { results := [.lit (.bool false)], args := [d1, d2, d3, d4] }
  | _ => none }
def IncbSidesWrongFalsely : Prop := incbSidesRow.holds Tryz.pinned (OpenSpec.ofChange incbSidesWrong)

/-- 'vernierlaw12.IncbCounts': WHATEVER THE INPUT: true; the input reads as it did. -/
def incbCountsSpec : ChangeSpec := { name := "incbCounts", fn := fun _ => fun
  | [d1, d2, d3, d4] => { results := [.lit (.bool true)], args := [d1, d2, d3, d4] }
  | _ => none }
def incbCountsRow : OpenClaim := { program := "ythbjgdmcnonofaagreat", sum := "f58ca3da6f22683bc2cb01cfbc168401296f01031d9919dd5710f769e01a3f38", func := "vernier/vernierlaw12.IncbCounts", spec := "incbCounts", unfollowed := true, recurses := true, named := ["math/bits.overflowError"], apart := false }
def IncbCountsSaid : Prop := incbCountsRow.holds Tryz.pinned (OpenSpec.ofChange incbCountsSpec)

/-- ITS FALSE NEIGHBOUR: 'it returns false'. Refute it at one input. -/
def incbCountsWrong : ChangeSpec := { name := "incbCounts", fn := fun _ => fun
  | [d1, d2, d3, d4] => { results := [.lit (.bool false)], args := [d1, d2, d3, d4] }
  | _ => none }
def IncbCountsWrongFalsely : Prop := incbCountsRow.holds Tryz.pinned (OpenSpec.ofChange incbCountsWrong)

/-- 'vernierlaw19.TestEven': WHATEVER THE INPUT: true; the input reads as it did. -/
def testEvenSpec : ChangeSpec := { name := "testEven", fn := fun _ => fun
  | [d1, d2, d3] => { results := [.lit (.bool true)], args := [d1, d2, d3] }
  | _ => none }
def testEvenRow : OpenClaim := { program := "ythbjgdmcnonofaagreat", sum := "f58ca3da6f22683bc2cb01cfbc168401296f01031d9919dd5710f769e01a3f38", func := "vernier/vernierlaw19.TestEven", spec := "testEven", unfollowed := true, recurses := true, named := ["math/bits.overflowError"], apart := false }
def TestEvenSaid : Prop := testEvenRow.holds Tryz.pinned (OpenSpec.ofChange testEvenSpec)

/-- ITS FALSE NEIGHBOUR: 'it returns false'. Refute it at one input. -/
def testEvenWrong : ChangeSpec := { name := "testEven", fn := fun _ => fun
  | [d1, d2, d3] => { results := [.lit (.bool false)], args := [d1, d2, d3] }
  | _ => none }
def TestEvenWrongFalsely : Prop := testEvenRow.holds Tryz.pinned (OpenSpec.ofChange testEvenWrong)

/- THE SECOND FORM. 'bulk': how many values and letters a reading holds, each counted each time it is reached (what is shared counts as often as it is met; a slice's spare places count too). A statement '..UptoSaid' is the law's where the arguments, and the package variables that the reading takes, are together of bulk at most 1048576: NARROWER than '..Said'. Prove '..Said' where nothing that the law and all that it calls make is longer than what came in: it says more and counts as full. Else prove '..UptoSaid'. A law counts once. -/
mutual
def uptoBulk {H : Type} : DataW H → Nat
  | .lit (.string bytes) => bytes.length + 1
  | .lit _ => 1
  | .nil => 1
  | .ptr d => uptoBulk d + 1
  | .slice elems spare => uptoBulkAll elems + uptoBulkAll spare + 1
  | .agg parts => uptoBulkAll parts + 1
  | .iface _ d => uptoBulk d + 1
  | .map entries => uptoBulkEntries entries + 1
  | .held _ => 1
def uptoBulkAll {H : Type} : List (DataW H) → Nat
  | [] => 0
  | d :: r => uptoBulk d + uptoBulkAll r
def uptoBulkEntries {H : Type} : List (Lit × DataW H) → Nat
  | [] => 0
  | x :: r => uptoBulkEntry x + uptoBulkEntries r
def uptoBulkEntry {H : Type} : Lit × DataW H → Nat
  | (.string bytes, d) => bytes.length + uptoBulk d + 1
  | (_, d) => uptoBulk d + 1
 end
def uptoSmall : (H : Type) → List (DataW H) → Bool := fun _ ds => decide (uptoBulkAll ds ≤ 1048576)
def OpenSpec.upto (s : _root_.Go.ChangeSpec) : _root_.Go.OpenSpec := { _root_.Go.OpenSpec.ofChange s with cond := some uptoSmall }

/-- 'vernierlaw9.GamBalls', WHERE WHAT IT READS IS OF BULK AT MOST 1048576: true; the input reads as it did. -/
def gamBallsUptoRow : OpenClaim := { program := "ythbjgdmcnonofaagreat", sum := "f58ca3da6f22683bc2cb01cfbc168401296f01031d9919dd5710f769e01a3f38", func := "vernier/vernierlaw9.GamBalls", spec := "gamBalls", unfollowed := true, recurses := true, named := ["math/bits.overflowError"], apart := false, narrowed := true }
def GamBallsUptoSaid : Prop := gamBallsUptoRow.holds Tryz.pinned (OpenSpec.upto gamBallsSpec)

/-- 'vernierlaw12.IncbSides', WHERE WHAT IT READS IS OF BULK AT MOST 1048576: true; the input reads as it did. -/
def incbSidesUptoRow : OpenClaim := { program := "ythbjgdmcnonofaagreat", sum := "f58ca3da6f22683bc2cb01cfbc168401296f01031d9919dd5710f769e01a3f38", func := "vernier/vernierlaw12.IncbSides", spec := "incbSides", unfollowed := true, recurses := true, named := ["math/bits.overflowError"], apart := false, narrowed := true }
def IncbSidesUptoSaid : Prop := incbSidesUptoRow.holds Tryz.pinned (OpenSpec.upto incbSidesSpec)

/-- 'vernierlaw12.IncbCounts', WHERE WHAT IT READS IS OF BULK AT MOST 1048576: true; the input reads as it did. -/
def incbCountsUptoRow : OpenClaim := { program := "ythbjgdmcnonofaagreat", sum := "f58ca3da6f22683bc2cb01cfbc168401296f01031d9919dd5710f769e01a3f38", func := "vernier/vernierlaw12.IncbCounts", spec := "incbCounts", unfollowed := true, recurses := true, named := ["math/bits.overflowError"], apart := false, narrowed := true }
def IncbCountsUptoSaid : Prop := incbCountsUptoRow.holds Tryz.pinned (OpenSpec.upto incbCountsSpec)

/-- 'vernierlaw19.TestEven', WHERE WHAT IT READS IS OF BULK AT MOST 1048576: true; the input reads as it did. -/
def testEvenUptoRow : OpenClaim := { program := "ythbjgdmcnonofaagreat", sum := "f58ca3da6f22683bc2cb01cfbc168401296f01031d9919dd5710f769e01a3f38", func := "vernier/vernierlaw19.TestEven", spec := "testEven", unfollowed := true, recurses := true, named := ["math/bits.overflowError"], apart := false, narrowed := true }
def TestEvenUptoSaid : Prop := testEvenUptoRow.holds Tryz.pinned (OpenSpec.upto testEvenSpec)

end Rows
end Go.Proofs.YthbjgdmcnonofaaGreat
