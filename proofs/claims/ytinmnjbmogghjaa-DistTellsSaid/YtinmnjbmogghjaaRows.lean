/-
  No cell of these rows narrows 'for every input' (looked for: loops, veiled, ifaces, maps, wideKeys, modest, calm, conditions, laid).
  DERIVED. THE GIVEN ROWS OF THIS SEAT. 7 by the template 'for every input the law returns true; each argument reads behind the call as it read before'; 0 by the template 'total and deterministic' (their statements: YtinmnjbmogghjaaTotals.lean).
  GIVEN WITH THE SEED: the statements are not yours to turn. If you find one false, say at which input.
  Laid BY PROGRAM, IN A SANDBOX (cutbox-rows.mjs): the forced cells as the released guide's own fill.sh prints them over the translation 6bcb9e16c4b1e890… (all of the seat's roots in one cut). By AI agents, Wed Nov 11 2026. No macro, syntax, notation, axiom, sorry.
-/
import Derived.Test.YtinmnjbmogghjaaChecked
import GoSem.Claim
import GoSem.ClaimJoined
import GoSem.ClaimMapViews
import Derived.JoinedTies
import Derived.KernelRfl
namespace Go.Proofs.Ytinmnjbmogghjaa
/- THE CELL 'sum', in the pinned program and in every row, IS THE sha256 OF THE DUMP (.gsa) THAT YtinmnjbmogghjaaProg.lean LOADS. Nothing in Lean hashes anything: it is a label: what it is worth is what the hold of that sum in a sandbox is worth. -/
noncomputable def Try.pinned : Pinned := { name := "ytinmnjbmogghjaa", sum := "6bcb9e16c4b1e89019d16cdbfe3dbffa247acec765b3fa35db33c113318a1ac3", checked := Try.checked }
namespace Rows
def none {H : Type} : Left H := { results := [], args := [] }

/-- 'vernierlaw9.GamSteps': WHATEVER THE INPUT: true; the input reads as it did. -/
def gamStepsSpec : ChangeSpec := { name := "gamSteps", fn := fun _ => fun
  | [d] => { results := [.lit (.bool true)], args := [d] }
  | _ => none }
def gamStepsRow : OpenClaim := { program := "ytinmnjbmogghjaa", sum := "6bcb9e16c4b1e89019d16cdbfe3dbffa247acec765b3fa35db33c113318a1ac3", func := "vernier/vernierlaw9.GamSteps", spec := "gamSteps", named := ["math/bits.overflowError"], apart := false }
def GamStepsSaid : Prop := gamStepsRow.holds Try.pinned (OpenSpec.ofChange gamStepsSpec)

/-- ITS FALSE NEIGHBOUR: 'it returns false'. Refute it at one input. -/
def gamStepsWrong : ChangeSpec := { name := "gamSteps", fn := fun _ => fun
  | [d] => { results := [.lit (.bool false)], args := [d] }
  | _ => none }
def GamStepsWrongFalsely : Prop := gamStepsRow.holds Try.pinned (OpenSpec.ofChange gamStepsWrong)

/-- 'vernierlaw9.GamChooses': WHATEVER THE INPUT: true; the input reads as it did. -/
def gamChoosesSpec : ChangeSpec := { name := "gamChooses", fn := fun _ => fun
  | [d1, d2] => { results := [.lit (.bool true)], args := [d1, d2] }
  | _ => none }
def gamChoosesRow : OpenClaim := { program := "ytinmnjbmogghjaa", sum := "6bcb9e16c4b1e89019d16cdbfe3dbffa247acec765b3fa35db33c113318a1ac3", func := "vernier/vernierlaw9.GamChooses", spec := "gamChooses", named := ["math/bits.overflowError"], apart := false }
def GamChoosesSaid : Prop := gamChoosesRow.holds Try.pinned (OpenSpec.ofChange gamChoosesSpec)

/-- ITS FALSE NEIGHBOUR: 'it returns false'. Refute it at one input. -/
def gamChoosesWrong : ChangeSpec := { name := "gamChooses", fn := fun _ => fun
  | [d1, d2] => { results := [.lit (.bool false)], args := [d1, d2] }
  | _ => none }
def GamChoosesWrongFalsely : Prop := gamChoosesRow.holds Try.pinned (OpenSpec.ofChange gamChoosesWrong)

/-- 'vernierlaw9.GamBetas': WHATEVER THE INPUT: true; the input reads as it did. -/
def gamBetasSpec : ChangeSpec := { name := "gamBetas", fn := fun _ => fun
  | [d1, d2] => { results := [.lit (.bool true)], args := [d1, d2] }
  | _ => none }
def gamBetasRow : OpenClaim := { program := "ytinmnjbmogghjaa", sum := "6bcb9e16c4b1e89019d16cdbfe3dbffa247acec765b3fa35db33c113318a1ac3", func := "vernier/vernierlaw9.GamBetas", spec := "gamBetas", named := ["math/bits.overflowError"], apart := false }
def GamBetasSaid : Prop := gamBetasRow.holds Try.pinned (OpenSpec.ofChange gamBetasSpec)

/-- ITS FALSE NEIGHBOUR: 'it returns false'. Refute it at one input. -/
def gamBetasWrong : ChangeSpec := { name := "gamBetas", fn := fun _ => fun
  | [d1, d2] => { results := [.lit (.bool false)], args := [d1, d2] }
  | _ => none }
def GamBetasWrongFalsely : Prop := gamBetasRow.holds Try.pinned (OpenSpec.ofChange gamBetasWrong)

/-- 'vernierlaw9.GamTells': WHATEVER THE INPUT: true; the input reads as it did. -/
def gamTellsSpec : ChangeSpec := { name := "gamTells", fn := fun _ => fun
  | [d1, d2, d3, d4] => { results := [.lit (.bool true)], args := [d1, d2, d3, d4] }
  | _ => none }
def gamTellsRow : OpenClaim := { program := "ytinmnjbmogghjaa", sum := "6bcb9e16c4b1e89019d16cdbfe3dbffa247acec765b3fa35db33c113318a1ac3", func := "vernier/vernierlaw9.GamTells", spec := "gamTells", named := ["math/bits.overflowError"], apart := false }
def GamTellsSaid : Prop := gamTellsRow.holds Try.pinned (OpenSpec.ofChange gamTellsSpec)

/-- ITS FALSE NEIGHBOUR: 'it returns false'. Refute it at one input. -/
def gamTellsWrong : ChangeSpec := { name := "gamTells", fn := fun _ => fun
  | [d1, d2, d3, d4] => { results := [.lit (.bool false)], args := [d1, d2, d3, d4] }
  | _ => none }
def GamTellsWrongFalsely : Prop := gamTellsRow.holds Try.pinned (OpenSpec.ofChange gamTellsWrong)

/-- 'vernierlaw15.QuantLeast': WHATEVER THE INPUT: true; the input reads as it did. -/
def quantLeastSpec : ChangeSpec := { name := "quantLeast", fn := fun _ => fun
  | [d1, d2] => { results := [.lit (.bool true)], args := [d1, d2] }
  | _ => none }
def quantLeastRow : OpenClaim := { program := "ytinmnjbmogghjaa", sum := "6bcb9e16c4b1e89019d16cdbfe3dbffa247acec765b3fa35db33c113318a1ac3", func := "vernier/vernierlaw15.QuantLeast", spec := "quantLeast", named := ["math/bits.overflowError"], apart := false }
def QuantLeastSaid : Prop := quantLeastRow.holds Try.pinned (OpenSpec.ofChange quantLeastSpec)

/-- ITS FALSE NEIGHBOUR: 'it returns false'. Refute it at one input. -/
def quantLeastWrong : ChangeSpec := { name := "quantLeast", fn := fun _ => fun
  | [d1, d2] => { results := [.lit (.bool false)], args := [d1, d2] }
  | _ => none }
def QuantLeastWrongFalsely : Prop := quantLeastRow.holds Try.pinned (OpenSpec.ofChange quantLeastWrong)

/-- 'vernierlaw15.QuantCounts': WHATEVER THE INPUT: true; the input reads as it did. -/
def quantCountsSpec : ChangeSpec := { name := "quantCounts", fn := fun _ => fun
  | [d1, d2, d3] => { results := [.lit (.bool true)], args := [d1, d2, d3] }
  | _ => none }
def quantCountsRow : OpenClaim := { program := "ytinmnjbmogghjaa", sum := "6bcb9e16c4b1e89019d16cdbfe3dbffa247acec765b3fa35db33c113318a1ac3", func := "vernier/vernierlaw15.QuantCounts", spec := "quantCounts", named := ["math/bits.overflowError"], apart := false }
def QuantCountsSaid : Prop := quantCountsRow.holds Try.pinned (OpenSpec.ofChange quantCountsSpec)

/-- ITS FALSE NEIGHBOUR: 'it returns false'. Refute it at one input. -/
def quantCountsWrong : ChangeSpec := { name := "quantCounts", fn := fun _ => fun
  | [d1, d2, d3] => { results := [.lit (.bool false)], args := [d1, d2, d3] }
  | _ => none }
def QuantCountsWrongFalsely : Prop := quantCountsRow.holds Try.pinned (OpenSpec.ofChange quantCountsWrong)

/-- 'vernierlaw14.DistTells': WHATEVER THE INPUT: true; the input reads as it did. -/
def distTellsSpec : ChangeSpec := { name := "distTells", fn := fun _ => fun
  | [d] => { results := [.lit (.bool true)], args := [d] }
  | _ => none }
def distTellsRow : OpenClaim := { program := "ytinmnjbmogghjaa", sum := "6bcb9e16c4b1e89019d16cdbfe3dbffa247acec765b3fa35db33c113318a1ac3", func := "vernier/vernierlaw14.DistTells", spec := "distTells", named := ["math/bits.overflowError"], apart := false }
def DistTellsSaid : Prop := distTellsRow.holds Try.pinned (OpenSpec.ofChange distTellsSpec)

/-- ITS FALSE NEIGHBOUR: 'it returns false'. Refute it at one input. -/
def distTellsWrong : ChangeSpec := { name := "distTells", fn := fun _ => fun
  | [d] => { results := [.lit (.bool false)], args := [d] }
  | _ => none }
def DistTellsWrongFalsely : Prop := distTellsRow.holds Try.pinned (OpenSpec.ofChange distTellsWrong)

/- THE SECOND FORM. 'bulk': how many values and letters a reading holds, each counted each time it is reached (what is shared counts as often as it is met; a slice's spare places count too). A statement '..UptoSaid' is the law's where the arguments, and the package variables that the reading takes, are together of bulk at most 1048576: NARROWER than '..Said'. Prove '..Said' where nothing that the law and all that it calls make is longer than what came in: it says more and counts as full. Else prove '..UptoSaid'. A law counts once. -/
mutual
def uptoBulk {H : Type} : DataW H → Nat
  | .lit (.string bytes) => bytes.length + 1
  | .lit _ => 1
  | .nil => 1
  | .ptr d => uptoBulk d + 1
  | .slice elems spare => uptoBulkAll elems + uptoBulkAll spare + 1
  | .agg parts => uptoBulkAll parts + 1
  | .iface _ d => uptoBulk d + 1
  | .map entries => uptoBulkEntries entries + 1
  | .held _ => 1
def uptoBulkAll {H : Type} : List (DataW H) → Nat
  | [] => 0
  | d :: r => uptoBulk d + uptoBulkAll r
def uptoBulkEntries {H : Type} : List (Lit × DataW H) → Nat
  | [] => 0
  | x :: r => uptoBulkEntry x + uptoBulkEntries r
def uptoBulkEntry {H : Type} : Lit × DataW H → Nat
  | (.string bytes, d) => bytes.length + uptoBulk d + 1
  | (_, d) => uptoBulk d + 1
 end
def uptoSmall : (H : Type) → List (DataW H) → Bool := fun _ ds => decide (uptoBulkAll ds ≤ 1048576)
def OpenSpec.upto (s : _root_.Go.ChangeSpec) : _root_.Go.OpenSpec := { _root_.Go.OpenSpec.ofChange s with cond := some uptoSmall }

/-- 'vernierlaw9.GamSteps', WHERE WHAT IT READS IS OF BULK AT MOST 1048576: true; the input reads as it did. -/
def gamStepsUptoRow : OpenClaim := { program := "ytinmnjbmogghjaa", sum := "6bcb9e16c4b1e89019d16cdbfe3dbffa247acec765b3fa35db33c113318a1ac3", func := "vernier/vernierlaw9.GamSteps", spec := "gamSteps", named := ["math/bits.overflowError"], apart := false, narrowed := true }
def GamStepsUptoSaid : Prop := gamStepsUptoRow.holds Try.pinned (OpenSpec.upto gamStepsSpec)

/-- 'vernierlaw9.GamChooses', WHERE WHAT IT READS IS OF BULK AT MOST 1048576: true; the input reads as it did. -/
def gamChoosesUptoRow : OpenClaim := { program := "ytinmnjbmogghjaa", sum := "6bcb9e16c4b1e89019d16cdbfe3dbffa247acec765b3fa35db33c113318a1ac3", func := "vernier/vernierlaw9.GamChooses", spec := "gamChooses", named := ["math/bits.overflowError"], apart := false, narrowed := true }
def GamChoosesUptoSaid : Prop := gamChoosesUptoRow.holds Try.pinned (OpenSpec.upto gamChoosesSpec)

/-- 'vernierlaw9.GamBetas', WHERE WHAT IT READS IS OF BULK AT MOST 1048576: true; the input reads as it did. -/
def gamBetasUptoRow : OpenClaim := { program := "ytinmnjbmogghjaa", sum := "6bcb9e16c4b1e89019d16cdbfe3dbffa247acec765b3fa35db33c113318a1ac3", func := "vernier/vernierlaw9.GamBetas", spec := "gamBetas", named := ["math/bits.overflowError"], apart := false, narrowed := true }
def GamBetasUptoSaid : Prop := gamBetasUptoRow.holds Try.pinned (OpenSpec.upto gamBetasSpec)

/-- 'vernierlaw9.GamTells', WHERE WHAT IT READS IS OF BULK AT MOST 1048576: true; the input reads as it did. -/
def gamTellsUptoRow : OpenClaim := { program := "ytinmnjbmogghjaa", sum := "6bcb9e16c4b1e89019d16cdbfe3dbffa247acec765b3fa35db33c113318a1ac3", func := "vernier/vernierlaw9.GamTells", spec := "gamTells", named := ["math/bits.overflowError"], apart := false, narrowed := true }
def GamTellsUptoSaid : Prop := gamTellsUptoRow.holds Try.pinned (OpenSpec.upto gamTellsSpec)

/-- 'vernierlaw15.QuantLeast', WHERE WHAT IT READS IS OF BULK AT MOST 1048576: true; the input reads as it did. -/
def quantLeastUptoRow : OpenClaim := { program := "ytinmnjbmogghjaa", sum := "6bcb9e16c4b1e89019d16cdbfe3dbffa247acec765b3fa35db33c113318a1ac3", func := "vernier/vernierlaw15.QuantLeast", spec := "quantLeast", named := ["math/bits.overflowError"], apart := false, narrowed := true }
def QuantLeastUptoSaid : Prop := quantLeastUptoRow.holds Try.pinned (OpenSpec.upto quantLeastSpec)

/-- 'vernierlaw15.QuantCounts', WHERE WHAT IT READS IS OF BULK AT MOST 1048576: true; the input reads as it did. -/
def quantCountsUptoRow : OpenClaim := { program := "ytinmnjbmogghjaa", sum := "6bcb9e16c4b1e89019d16cdbfe3dbffa247acec765b3fa35db33c113318a1ac3", func := "vernier/vernierlaw15.QuantCounts", spec := "quantCounts", named := ["math/bits.overflowError"], apart := false, narrowed := true }
def QuantCountsUptoSaid : Prop := quantCountsUptoRow.holds Try.pinned (OpenSpec.upto quantCountsSpec)

/-- 'vernierlaw14.DistTells', WHERE WHAT IT READS IS OF BULK AT MOST 1048576: true; the input reads as it did. -/
def distTellsUptoRow : OpenClaim := { program := "ytinmnjbmogghjaa", sum := "6bcb9e16c4b1e89019d16cdbfe3dbffa247acec765b3fa35db33c113318a1ac3", func := "vernier/vernierlaw14.DistTells", spec := "distTells", named := ["math/bits.overflowError"], apart := false, narrowed := true }
def DistTellsUptoSaid : Prop := distTellsUptoRow.holds Try.pinned (OpenSpec.upto distTellsSpec)

end Rows
end Go.Proofs.Ytinmnjbmogghjaa
