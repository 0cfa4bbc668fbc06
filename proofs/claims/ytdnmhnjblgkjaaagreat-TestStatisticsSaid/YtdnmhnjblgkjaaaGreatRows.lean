/-
  No cell of these rows narrows 'for every input' (looked for: loops, veiled, ifaces, maps, wideKeys, modest, calm, conditions, laid).
  DERIVED. THE GIVEN ROWS OF THIS SEAT. 2 by the template 'for every input the law returns true; each argument reads behind the call as it read before'; 0 by the template 'total and deterministic' (their statements: YtdnmhnjblgkjaaaGreatTotals.lean).
  GIVEN WITH THE SEED: the statements are not yours to turn. If you find one false, say at which input.
  Laid BY PROGRAM, IN A SANDBOX (cutbox-rows.mjs): the forced cells as the released guide's own fill.sh prints them over the translation ef63b6c5d1b5f9fb… (all of the seat's roots in one cut). By AI agents, Wed Nov 11 2026. No macro, syntax, notation, axiom, sorry.
-/
import Derived.Test.YtdnmhnjblgkjaaaGreatChecked
import GoSem.Claim
import GoSem.ClaimJoined
import GoSem.ClaimMapViews
import Derived.JoinedTies
import Derived.KernelRfl
namespace Go.Proofs.YtdnmhnjblgkjaaaGreat
/- THE CELL 'sum', in the pinned program and in every row, IS THE sha256 OF THE DUMP (.gsa) THAT YtdnmhnjblgkjaaaGreatProg.lean LOADS. Nothing in Lean hashes anything: it is a label: what it is worth is what the hold of that sum in a sandbox is worth. -/
noncomputable def Tryz.pinned : Pinned := { name := "ytdnmhnjblgkjaaagreat", sum := "ef63b6c5d1b5f9fb05a138a5cdb05d0bbd877f39b89b908cc95c2d285d23fcdc", checked := Tryz.checked }
namespace Rows
def none {H : Type} : Left H := { results := [], args := [] }

/-- 'vernierlaw19.TestStatistics': WHATEVER THE INPUT: true; the input reads as it did. -/
def testStatisticsSpec : ChangeSpec := { name := "testStatistics", fn := fun _ => fun
  | [d] => { results := [.lit (.bool true)], args := [d] }
  | _ => none }
def testStatisticsRow : OpenClaim := { program := "ytdnmhnjblgkjaaagreat", sum := "ef63b6c5d1b5f9fb05a138a5cdb05d0bbd877f39b89b908cc95c2d285d23fcdc", func := "vernier/vernierlaw19.TestStatistics", spec := "testStatistics", named := ["math/bits.overflowError"], apart := false }
def TestStatisticsSaid : Prop := testStatisticsRow.holds Tryz.pinned (OpenSpec.ofChange testStatisticsSpec)

/-- ITS FALSE NEIGHBOUR: 'it returns false'. Refute it at one input. -/
def testStatisticsWrong : ChangeSpec := { name := "testStatistics", fn := fun _ => fun
  | [d] => { results := [.lit (.bool false)], args := [d] }
  | _ => none }
def TestStatisticsWrongFalsely : Prop := testStatisticsRow.holds Tryz.pinned (OpenSpec.ofChange testStatisticsWrong)

/-- 'vernierlaw19.TestSums': WHATEVER THE INPUT: true; the input reads as it did. -/
def testSumsSpec : ChangeSpec := { name := "testSums", fn := fun _ => fun
  | [d] => { results := [.lit (.bool true)], args := [d] }
  | _ => none }
def testSumsRow : OpenClaim := { program := "ytdnmhnjblgkjaaagreat", sum := "ef63b6c5d1b5f9fb05a138a5cdb05d0bbd877f39b89b908cc95c2d285d23fcdc", func := "vernier/vernierlaw19.TestSums", spec := "testSums", named := ["math/bits.overflowError"], apart := false }
def TestSumsSaid : Prop := testSumsRow.holds Tryz.pinned (OpenSpec.ofChange testSumsSpec)

/-- ITS FALSE NEIGHBOUR: 'it returns false'. Refute it at one input. -/
def testSumsWrong : ChangeSpec := { name := "testSums", fn := fun _ => fun
  | [d] => { results := [.lit (.bool false)], args := [d] }
  | _ => none }
def TestSumsWrongFalsely : Prop := testSumsRow.holds Tryz.pinned (OpenSpec.ofChange testSumsWrong)

/- THE SECOND FORM. 'bulk': how many values and letters a reading holds, each counted each time it is reached (what is shared counts as often as it is met; a slice's spare places count too). A statement '..UptoSaid' is the law's where the arguments, and the package variables that the reading takes, are together of bulk at most 1048576: NARROWER than '..Said'. Prove '..Said' where nothing that the law and all that it calls make is longer than what came in: it says more and counts as full. Else prove '..UptoSaid'. A law counts once. -/
mutual
def uptoBulk {H : Type} : DataW H → Nat
  | .lit (.string bytes) => bytes.length + 1
  | .lit _ => 1
  | .nil => 1
  | .ptr d => uptoBulk d + 1
  | .slice elems spare => uptoBulkAll elems + uptoBulkAll spare + 1
  | .agg parts => uptoBulkAll parts + 1
  | .iface _ d => uptoBulk d + 1
  | .map entries => uptoBulkEntries entries + 1
  | .held _ => 1
def uptoBulkAll {H : Type} : List (DataW H) → Nat
  | [] => 0
  | d :: r => uptoBulk d + uptoBulkAll r
def uptoBulkEntries {H : Type} : List (Lit × DataW H) → Nat
  | [] => 0
  | x :: r => uptoBulkEntry x + uptoBulkEntries r
def uptoBulkEntry {H : Type} : Lit × DataW H → Nat
  | (.string bytes, d) => bytes.length + uptoBulk d + 1
  | (_, d) => uptoBulk d + 1
 end
def uptoSmall : (H : Type) → List (DataW H) → Bool := fun _ ds => decide (uptoBulkAll ds ≤ 1048576)
def OpenSpec.upto (s : _root_.Go.ChangeSpec) : _root_.Go.OpenSpec := { _root_.Go.OpenSpec.ofChange s with cond := some uptoSmall }

/-- 'vernierlaw19.TestStatistics', WHERE WHAT IT READS IS OF BULK AT MOST 1048576: true; the input reads as it did. -/
def testStatisticsUptoRow : OpenClaim := { program := "ytdnmhnjblgkjaaagreat", sum := "ef63b6c5d1b5f9fb05a138a5cdb05d0bbd877f39b89b908cc95c2d285d23fcdc", func := "vernier/vernierlaw19.TestStatistics", spec := "testStatistics", named := ["math/bits.overflowError"], apart := false, narrowed := true }
def TestStatisticsUptoSaid : Prop := testStatisticsUptoRow.holds Tryz.pinned (OpenSpec.upto testStatisticsSpec)

/-- 'vernierlaw19.TestSums', WHERE WHAT IT READS IS OF BULK AT MOST 1048576: true; the input reads as it did. -/
def testSumsUptoRow : OpenClaim := { program := "ytdnmhnjblgkjaaagreat", sum := "ef63b6c5d1b5f9fb05a138a5cdb05d0bbd877f39b89b908cc95c2d285d23fcdc", func := "vernier/vernierlaw19.TestSums", spec := "testSums", named := ["math/bits.overflowError"], apart := false, narrowed := true }
def TestSumsUptoSaid : Prop := testSumsUptoRow.holds Tryz.pinned (OpenSpec.upto testSumsSpec)

end Rows
end Go.Proofs.YtdnmhnjblgkjaaaGreat
