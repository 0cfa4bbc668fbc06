/-
  No cell of these rows narrows 'for every input' (looked for: loops, veiled, ifaces, maps, wideKeys, modest, calm, conditions, laid).
  DERIVED. THE GIVEN ROWS OF THIS SEAT. 3 by the template 'for every input the law returns true; each argument reads behind the call as it read before'; 0 by the template 'total and deterministic' (their statements: YtfknkoeagjonbaaGreatTotals.lean).
  GIVEN WITH THE SEED: the statements are not yours to turn. If you find one false, say at which input.
  Laid BY PROGRAM, IN A SANDBOX (cutbox-rows.mjs): the forced cells as the released guide's own fill.sh prints them over the translation d6d2328c71ddfe64… (all of the seat's roots in one cut). By AI agents, Wed Nov 11 2026. No macro, syntax, notation, axiom, sorry.
-/
import Derived.Test.YtfknkoeagjonbaaGreatChecked
import GoSem.Claim
import GoSem.ClaimJoined
import GoSem.ClaimMapViews
import Derived.JoinedTies
import Derived.KernelRfl
namespace Go.Proofs.YtfknkoeagjonbaaGreat
/- THE CELL 'sum', in the pinned program and in every row, IS THE sha256 OF THE DUMP (.gsa) THAT YtfknkoeagjonbaaGreatProg.lean LOADS. Nothing in Lean hashes anything: it is a label: what it is worth is what the hold of that sum in a sandbox is worth. -/
noncomputable def Tryz.pinned : Pinned := { name := "ytfknkoeagjonbaagreat", sum := "d6d2328c71ddfe64e18927582c9325c065f7293d71ce89dc77219ffd8c749f87", checked := Tryz.checked }
namespace Rows
def none {H : Type} : Left H := { results := [], args := [] }

/-- 'vernierlaw15.QuantFinds': WHATEVER THE INPUT: true; the input reads as it did. -/
def quantFindsSpec : ChangeSpec := { name := "quantFinds", fn := fun _ => fun
  | [d1, d2, d3] => { results := [.lit (.bool true)], args := [d1, d2, d3] }
  | _ => none }
def quantFindsRow : OpenClaim := { program := "ytfknkoeagjonbaagreat", sum := "d6d2328c71ddfe64e18927582c9325c065f7293d71ce89dc77219ffd8c749f87", func := "vernier/vernierlaw15.QuantFinds", spec := "quantFinds", unfollowed := true, recurses := true, named := ["math/bits.overflowError"], apart := false }
def QuantFindsSaid : Prop := quantFindsRow.holds Tryz.pinned (OpenSpec.ofChange quantFindsSpec)

/-- ITS FALSE NEIGHBOUR: 'it returns false'. Refute it at one input. -/
def quantFindsWrong : ChangeSpec := { name := "quantFinds", fn := fun _ => fun
  | [d1, d2, d3] => { results := [.lit (.bool false)], args := [d1, d2, d3] }
  | _ => none }
def QuantFindsWrongFalsely : Prop := quantFindsRow.holds Tryz.pinned (OpenSpec.ofChange quantFindsWrong)

/-- 'vernierlaw19.TestChances': WHATEVER THE INPUT: true; the input reads as it did. -/
def testChancesSpec : ChangeSpec := { name := "testChances", fn := fun _ => fun
  | [d1, d2] => { results := [.lit (.bool true)], args := [d1, d2] }
  | _ => none }
def testChancesRow : OpenClaim := { program := "ytfknkoeagjonbaagreat", sum := "d6d2328c71ddfe64e18927582c9325c065f7293d71ce89dc77219ffd8c749f87", func := "vernier/vernierlaw19.TestChances", spec := "testChances", unfollowed := true, recurses := true, named := ["math/bits.overflowError"], apart := false }
def TestChancesSaid : Prop := testChancesRow.holds Tryz.pinned (OpenSpec.ofChange testChancesSpec)

/-- ITS FALSE NEIGHBOUR: 'it returns false'. Refute it at one input. -/
def testChancesWrong : ChangeSpec := { name := "testChances", fn := fun _ => fun
  | [d1, d2] => { results := [.lit (.bool false)], args := [d1, d2] }
  | _ => none }
def TestChancesWrongFalsely : Prop := testChancesRow.holds Tryz.pinned (OpenSpec.ofChange testChancesWrong)

/-- 'vernierlaw19.TestDecides': WHATEVER THE INPUT: true; the input reads as it did. -/
def testDecidesSpec : ChangeSpec := { name := "testDecides", fn := fun _ => fun
  | [d1, d2, d3] => { results := [.lit (.bool true)], args := [d1, d2, d3] }
  | _ => none }
def testDecidesRow : OpenClaim := { program := "ytfknkoeagjonbaagreat", sum := "d6d2328c71ddfe64e18927582c9325c065f7293d71ce89dc77219ffd8c749f87", func := "vernier/vernierlaw19.TestDecides", spec := "testDecides", unfollowed := true, recurses := true, named := ["math/bits.overflowError"], apart := false }
def TestDecidesSaid : Prop := testDecidesRow.holds Tryz.pinned (OpenSpec.ofChange testDecidesSpec)

/-- ITS FALSE NEIGHBOUR: 'it returns false'. Refute it at one input. -/
def testDecidesWrong : ChangeSpec := { name := "testDecides", fn := fun _ => fun
  | [d1, d2, d3] => { results := [.lit (.bool false)], args := [d1, d2, d3] }
  | _ => none }
def TestDecidesWrongFalsely : Prop := testDecidesRow.holds Tryz.pinned (OpenSpec.ofChange testDecidesWrong)

/- THE SECOND FORM. 'bulk': how many values and letters a reading holds, each counted each time it is reached (what is shared counts as often as it is met; a slice's spare places count too). A statement '..UptoSaid' is the law's where the arguments, and the package variables that the reading takes, are together of bulk at most 1048576: NARROWER than '..Said'. Prove '..Said' where nothing that the law and all that it calls make is longer than what came in: it says more and counts as full. Else prove '..UptoSaid'. A law counts once. -/
mutual
def uptoBulk {H : Type} : DataW H → Nat
  | .lit (.string bytes) => bytes.length + 1
  | .lit _ => 1
  | .nil => 1
  | .ptr d => uptoBulk d + 1
  | .slice elems spare => uptoBulkAll elems + uptoBulkAll spare + 1
  | .agg parts => uptoBulkAll parts + 1
  | .iface _ d => uptoBulk d + 1
  | .map entries => uptoBulkEntries entries + 1
  | .held _ => 1
def uptoBulkAll {H : Type} : List (DataW H) → Nat
  | [] => 0
  | d :: r => uptoBulk d + uptoBulkAll r
def uptoBulkEntries {H : Type} : List (Lit × DataW H) → Nat
  | [] => 0
  | x :: r => uptoBulkEntry x + uptoBulkEntries r
def uptoBulkEntry {H : Type} : Lit × DataW H → Nat
  | (.string bytes, d) => bytes.length + uptoBulk d + 1
  | (_, d) => uptoBulk d + 1
 end
def uptoSmall : (H : Type) → List (DataW H) → Bool := fun _ ds => decide (uptoBulkAll ds ≤ 1048576)
def OpenSpec.upto (s : _root_.Go.ChangeSpec) : _root_.Go.OpenSpec := { _root_.Go.OpenSpec.ofChange s with cond := some uptoSmall }

/-- 'vernierlaw15.QuantFinds', WHERE WHAT IT READS IS OF BULK AT MOST 1048576: true; the input reads as it did. -/
def quantFindsUptoRow : OpenClaim := { program := "ytfknkoeagjonbaagreat", sum := "d6d2328c71ddfe64e18927582c9325c065f7293d71ce89dc77219ffd8c749f87", func := "vernier/vernierlaw15.QuantFinds", spec := "quantFinds", unfollowed := true, recurses := true, named := ["math/bits.overflowError"], apart := false, narrowed := true }
def QuantFindsUptoSaid : Prop := quantFindsUptoRow.holds Tryz.pinned (OpenSpec.upto quantFindsSpec)

/-- 'vernierlaw19.TestChances', WHERE WHAT IT READS IS OF BULK AT MOST 1048576: true; the input reads as it did. -/
def testChancesUptoRow : OpenClaim := { program := "ytfknkoeagjonbaagreat", sum := "d6d2328c71ddfe64e18927582c9325c065f7293d71ce89dc77219ffd8c749f87", func := "vernier/vernierlaw19.TestChances", spec := "testChances", unfollowed := true, recurses := true, named := ["math/bits.overflowError"], apart := false, narrowed := true }
def TestChancesUptoSaid : Prop := testChancesUptoRow.holds Tryz.pinned (OpenSpec.upto testChancesSpec)

/-- 'vernierlaw19.TestDecides', WHERE WHAT IT READS IS OF BULK AT MOST 1048576: true; the input reads as it did. -/
def testDecidesUptoRow : OpenClaim := { program := "ytfknkoeagjonbaagreat", sum := "d6d2328c71ddfe64e18927582c9325c065f7293d71ce89dc77219ffd8c749f87", func := "vernier/vernierlaw19.TestDecides", spec := "testDecides", unfollowed := true, recurses := true, named := ["math/bits.overflowError"], apart := false, narrowed := true }
def TestDecidesUptoSaid : Prop := testDecidesUptoRow.holds Tryz.pinned (OpenSpec.upto testDecidesSpec)

end Rows
end Go.Proofs.YtfknkoeagjonbaaGreat
