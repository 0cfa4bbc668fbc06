/-
  No cell of these rows narrows 'for every input' (looked for: loops, veiled, ifaces, maps, wideKeys, modest, calm, conditions, laid).
  DERIVED. THE GIVEN ROWS OF THIS SEAT. 5 by the template 'for every input the law returns true; each argument reads behind the call as it read before'; 0 by the template 'total and deterministic' (their statements: YtdnmhnjblgkjaaaTotals.lean).
  GIVEN WITH THE SEED: the statements are not yours to turn. If you find one false, say at which input.
  Laid BY PROGRAM, IN A SANDBOX (cutbox-rows.mjs): the forced cells as the released guide's own fill.sh prints them over the translation b58ea31174e76505… (all of the seat's roots in one cut). By AI agents, Wed Nov 11 2026. No macro, syntax, notation, axiom, sorry.
-/
import Derived.Test.YtdnmhnjblgkjaaaChecked
import GoSem.Claim
import GoSem.ClaimJoined
import GoSem.ClaimMapViews
import Derived.JoinedTies
import Derived.KernelRfl
namespace Go.Proofs.Ytdnmhnjblgkjaaa
/- THE CELL 'sum', in the pinned program and in every row, IS THE sha256 OF THE DUMP (.gsa) THAT YtdnmhnjblgkjaaaProg.lean LOADS. Nothing in Lean hashes anything: it is a label: what it is worth is what the hold of that sum in a sandbox is worth. -/
noncomputable def Try.pinned : Pinned := { name := "ytdnmhnjblgkjaaa", sum := "b58ea31174e765053fccd80336f68b6cac0141c881e1ce4d43c2e2308fcebe65", checked := Try.checked }
namespace Rows
def none {H : Type} : Left H := { results := [], args := [] }

/-- 'vernierlaw15.QuantLeast': WHATEVER THE INPUT: true; the input reads as it did. -/
def quantLeastSpec : ChangeSpec := { name := "quantLeast", fn := fun _ => fun
  | [d1, d2] => { results := [.lit (.bool true)], args := [d1, d2] }
  | _ => none }
def quantLeastRow : OpenClaim := { program := "ytdnmhnjblgkjaaa", sum := "b58ea31174e765053fccd80336f68b6cac0141c881e1ce4d43c2e2308fcebe65", func := "vernier/vernierlaw15.QuantLeast", spec := "quantLeast", named := ["math/bits.overflowError"], apart := false }
def QuantLeastSaid : Prop := quantLeastRow.holds Try.pinned (OpenSpec.ofChange quantLeastSpec)

/-- ITS FALSE NEIGHBOUR: 'it returns false'. Refute it at one input. -/
def quantLeastWrong : ChangeSpec := { name := "quantLeast", fn := fun _ => fun
  | [d1, d2] => { results := [.lit (.bool false)], args := [d1, d2] }
  | _ => none }
def QuantLeastWrongFalsely : Prop := quantLeastRow.holds Try.pinned (OpenSpec.ofChange quantLeastWrong)

/-- 'vernierlaw15.QuantCounts': WHATEVER THE INPUT: true; the input reads as it did. -/
def quantCountsSpec : ChangeSpec := { name := "quantCounts", fn := fun _ => fun
  | [d1, d2, d3] => { results := [.lit (.bool true)], args := [d1, d2, d3] }
  | _ => none }
def quantCountsRow : OpenClaim := { program := "ytdnmhnjblgkjaaa", sum := "b58ea31174e765053fccd80336f68b6cac0141c881e1ce4d43c2e2308fcebe65", func := "vernier/vernierlaw15.QuantCounts", spec := "quantCounts", named := ["math/bits.overflowError"], apart := false }
def QuantCountsSaid : Prop := quantCountsRow.holds Try.pinned (OpenSpec.ofChange quantCountsSpec)

/-- ITS FALSE NEIGHBOUR: 'it returns false'. Refute it at one input. -/
def quantCountsWrong : ChangeSpec := { name := "quantCounts", fn := fun _ => fun
  | [d1, d2, d3] => { results := [.lit (.bool false)], args := [d1, d2, d3] }
  | _ => none }
def QuantCountsWrongFalsely : Prop := quantCountsRow.holds Try.pinned (OpenSpec.ofChange quantCountsWrong)

/-- 'vernierlaw19.TestMoves': WHATEVER THE INPUT: true; the input reads as it did. -/
def testMovesSpec : ChangeSpec := { name := "testMoves", fn := fun _ => fun
  | [d1, d2, d3, d4] => { results := [.lit (.bool true)], args := [d1, d2, d3, d4] }
  | _ => none }
def testMovesRow : OpenClaim := { program := "ytdnmhnjblgkjaaa", sum := "b58ea31174e765053fccd80336f68b6cac0141c881e1ce4d43c2e2308fcebe65", func := "vernier/vernierlaw19.TestMoves", spec := "testMoves", named := ["math/bits.overflowError"], apart := false }
def TestMovesSaid : Prop := testMovesRow.holds Try.pinned (OpenSpec.ofChange testMovesSpec)

/-- ITS FALSE NEIGHBOUR: 'it returns false'. Refute it at one input. -/
def testMovesWrong : ChangeSpec := { name := "testMoves", fn := fun _ => fun
  | [d1, d2, d3, d4] => { results := [.lit (.bool false)], args := [d1, d2, d3, d4] }
  | _ => none }
def TestMovesWrongFalsely : Prop := testMovesRow.holds Try.pinned (OpenSpec.ofChange testMovesWrong)

/-- 'vernierlaw19.TestTurns': WHATEVER THE INPUT: true; the input reads as it did. -/
def testTurnsSpec : ChangeSpec := { name := "testTurns", fn := fun _ => fun
  | [d1, d2] => { results := [.lit (.bool true)], args := [d1, d2] }
  | _ => none }
def testTurnsRow : OpenClaim := { program := "ytdnmhnjblgkjaaa", sum := "b58ea31174e765053fccd80336f68b6cac0141c881e1ce4d43c2e2308fcebe65", func := "vernier/vernierlaw19.TestTurns", spec := "testTurns", named := ["math/bits.overflowError"], apart := false }
def TestTurnsSaid : Prop := testTurnsRow.holds Try.pinned (OpenSpec.ofChange testTurnsSpec)

/-- ITS FALSE NEIGHBOUR: 'it returns false'. Refute it at one input. -/
def testTurnsWrong : ChangeSpec := { name := "testTurns", fn := fun _ => fun
  | [d1, d2] => { results := [.lit (.bool false)], args := [d1, d2] }
  | _ => none }
def TestTurnsWrongFalsely : Prop := testTurnsRow.holds Try.pinned (OpenSpec.ofChange testTurnsWrong)

/-- 'vernierlaw19.TestPairs': WHATEVER THE INPUT: true; the input reads as it did. -/
def testPairsSpec : ChangeSpec := { name := "testPairs", fn := fun _ => fun
  | [d1, d2] => { results := [.lit (.bool true)], args := [d1, d2] }
  | _ => none }
def testPairsRow : OpenClaim := { program := "ytdnmhnjblgkjaaa", sum := "b58ea31174e765053fccd80336f68b6cac0141c881e1ce4d43c2e2308fcebe65", func := "vernier/vernierlaw19.TestPairs", spec := "testPairs", named := ["math/bits.overflowError"], apart := false }
def TestPairsSaid : Prop := testPairsRow.holds Try.pinned (OpenSpec.ofChange testPairsSpec)

/-- ITS FALSE NEIGHBOUR: 'it returns false'. Refute it at one input. -/
def testPairsWrong : ChangeSpec := { name := "testPairs", fn := fun _ => fun
  | [d1, d2] => { results := [.lit (.bool false)], args := [d1, d2] }
  | _ => none }
def TestPairsWrongFalsely : Prop := testPairsRow.holds Try.pinned (OpenSpec.ofChange testPairsWrong)

/- THE SECOND FORM. 'bulk': how many values and letters a reading holds, each counted each time it is reached (what is shared counts as often as it is met; a slice's spare places count too). A statement '..UptoSaid' is the law's where the arguments, and the package variables that the reading takes, are together of bulk at most 1048576: NARROWER than '..Said'. Prove '..Said' where nothing that the law and all that it calls make is longer than what came in: it says more and counts as full. Else prove '..UptoSaid'. A law counts once. -/
mutual
def uptoBulk {H : Type} : DataW H → Nat
  | .lit (.string bytes) => bytes.length + 1
  | .lit _ => 1
  | .nil => 1
  | .ptr d => uptoBulk d + 1
  | .slice elems spare => uptoBulkAll elems + uptoBulkAll spare + 1
  | .agg parts => uptoBulkAll parts + 1
  | .iface _ d => uptoBulk d + 1
  | .map entries => uptoBulkEntries entries + 1
  | .held _ => 1
def uptoBulkAll {H : Type} : List (DataW H) → Nat
  | [] => 0
  | d :: r => uptoBulk d + uptoBulkAll r
def uptoBulkEntries {H : Type} : List (Lit × DataW H) → Nat
  | [] => 0
  | x :: r => uptoBulkEntry x + uptoBulkEntries r
def uptoBulkEntry {H : Type} : Lit × DataW H → Nat
  | (.string bytes, d) => bytes.length + uptoBulk d + 1
  | (_, d) => uptoBulk d + 1
 end
def uptoSmall : (H : Type) → List (DataW H) → Bool := fun _ ds => decide (uptoBulkAll ds ≤ 1048576)
def OpenSpec.upto (s : _root_.Go.ChangeSpec) : _root_.Go.OpenSpec := { _root_.Go.OpenSpec.ofChange s with cond := some uptoSmall }

/-- 'vernierlaw15.QuantLeast', WHERE WHAT IT READS IS OF BULK AT MOST 1048576: true; the input reads as it did. -/
def quantLeastUptoRow : OpenClaim := { program := "ytdnmhnjblgkjaaa", sum := "b58ea31174e765053fccd80336f68b6cac0141c881e1ce4d43c2e2308fcebe65", func := "vernier/vernierlaw15.QuantLeast", spec := "quantLeast", named := ["math/bits.overflowError"], apart := false, narrowed := true }
def QuantLeastUptoSaid : Prop := quantLeastUptoRow.holds Try.pinned (OpenSpec.upto quantLeastSpec)

/-- 'vernierlaw15.QuantCounts', WHERE WHAT IT READS IS OF BULK AT MOST 1048576: true; the input reads as it did. -/
def quantCountsUptoRow : OpenClaim := { program := "ytdnmhnjblgkjaaa", sum := "b58ea31174e765053fccd80336f68b6cac0141c881e1ce4d43c2e2308fcebe65", func := "vernier/vernierlaw15.QuantCounts", spec := "quantCounts", named := ["math/bits.overflowError"], apart := false, narrowed := true }
def QuantCountsUptoSaid : Prop := quantCountsUptoRow.holds Try.pinned (OpenSpec.upto quantCountsSpec)

/-- 'vernierlaw19.TestMoves', WHERE WHAT IT READS IS OF BULK AT MOST 1048576: true; the input reads as it did. -/
def testMovesUptoRow : OpenClaim := { program := "ytdnmhnjblgkjaaa", sum := "b58ea31174e765053fccd80336f68b6cac0141c881e1ce4d43c2e2308fcebe65", func := "vernier/vernierlaw19.TestMoves", spec := "testMoves", named := ["math/bits.overflowError"], apart := false, narrowed := true }
def TestMovesUptoSaid : Prop := testMovesUptoRow.holds Try.pinned (OpenSpec.upto testMovesSpec)

/-- 'vernierlaw19.TestTurns', WHERE WHAT IT READS IS OF BULK AT MOST 1048576: true; the input reads as it did. -/
def testTurnsUptoRow : OpenClaim := { program := "ytdnmhnjblgkjaaa", sum := "b58ea31174e765053fccd80336f68b6cac0141c881e1ce4d43c2e2308fcebe65", func := "vernier/vernierlaw19.TestTurns", spec := "testTurns", named := ["math/bits.overflowError"], apart := false, narrowed := true }
def TestTurnsUptoSaid : Prop := testTurnsUptoRow.holds Try.pinned (OpenSpec.upto testTurnsSpec)

/-- 'vernierlaw19.TestPairs', WHERE WHAT IT READS IS OF BULK AT MOST 1048576: true; the input reads as it did. -/
def testPairsUptoRow : OpenClaim := { program := "ytdnmhnjblgkjaaa", sum := "b58ea31174e765053fccd80336f68b6cac0141c881e1ce4d43c2e2308fcebe65", func := "vernier/vernierlaw19.TestPairs", spec := "testPairs", named := ["math/bits.overflowError"], apart := false, narrowed := true }
def TestPairsUptoSaid : Prop := testPairsUptoRow.holds Try.pinned (OpenSpec.upto testPairsSpec)

end Rows
end Go.Proofs.Ytdnmhnjblgkjaaa
