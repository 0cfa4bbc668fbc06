/-
  No cell of these rows narrows 'for every input' (looked for: loops, veiled, ifaces, maps, wideKeys, modest, calm, conditions, laid).
  DERIVED. THE GIVEN ROWS OF THIS SEAT. 12 by the template 'for every input the law returns true; each argument reads behind the call as it read before'; 0 by the template 'total and deterministic' (their statements: YtemnjalaincijaaGreatTotals.lean).
  GIVEN WITH THE SEED: the statements are not yours to turn. If you find one false, say at which input.
  Laid BY PROGRAM, IN A SANDBOX (cutbox-rows.mjs): the forced cells as the released guide's own fill.sh prints them over the translation 54da0004c399cdab… (all of the seat's roots in one cut). By AI agents, Wed Nov 11 2026. No macro, syntax, notation, axiom, sorry.
-/
import Derived.Test.YtemnjalaincijaaGreatChecked
import GoSem.Claim
import GoSem.ClaimJoined
import GoSem.ClaimMapViews
import Derived.JoinedTies
import Derived.KernelRfl
namespace Go.Proofs.YtemnjalaincijaaGreat
/- THE CELL 'sum', in the pinned program and in every row, IS THE sha256 OF THE DUMP (.gsa) THAT YtemnjalaincijaaGreatProg.lean LOADS. Nothing in Lean hashes anything: it is a label: what it is worth is what the hold of that sum in a sandbox is worth. -/
noncomputable def Tryz.pinned : Pinned := { name := "ytemnjalaincijaagreat", sum := "54da0004c399cdab3b7b3a26300e0147cd1d2cd720440de54753e0ba5085157a", checked := Tryz.checked }
namespace Rows
def none {H : Type} : Left H := { results := [], args := [] }

/-- 'vernierlaw11.IncgFalls': WHATEVER THE INPUT: true; the input reads as it did. -/
def incgFallsSpec : ChangeSpec := { name := "incgFalls", fn := fun _ => fun
  | [d1, d2, d3] => { results := [.lit (.bool true)], args := [d1, d2, d3] }
  | _ => none }
def incgFallsRow : OpenClaim := { program := "ytemnjalaincijaagreat", sum := "54da0004c399cdab3b7b3a26300e0147cd1d2cd720440de54753e0ba5085157a", func := "vernier/vernierlaw11.IncgFalls", spec := "incgFalls", unfollowed := true, recurses := true, named := ["math/bits.overflowError"], apart := false }
def IncgFallsSaid : Prop := incgFallsRow.holds Tryz.pinned (OpenSpec.ofChange incgFallsSpec)

/-- ITS FALSE NEIGHBOUR: 'it returns false'. Refute it at one input. -/
def incgFallsWrong : ChangeSpec := { name := "incgFalls", fn := fun _ => fun
  | [d1, d2, d3] => { results := [.lit (.bool false)], args := [d1, d2, d3] }
  | _ => none }
def IncgFallsWrongFalsely : Prop := incgFallsRow.holds Tryz.pinned (OpenSpec.ofChange incgFallsWrong)

/-- 'vernierlaw11.IncgTells': WHATEVER THE INPUT: true; the input reads as it did. -/
def incgTellsSpec : ChangeSpec := { name := "incgTells", fn := fun _ => fun
  | [d1, d2, d3] => { results := [.lit (.bool true)], args := [d1, d2, d3] }
  | _ => none }
def incgTellsRow : OpenClaim := { program := "ytemnjalaincijaagreat", sum := "54da0004c399cdab3b7b3a26300e0147cd1d2cd720440de54753e0ba5085157a", func := "vernier/vernierlaw11.IncgTells", spec := "incgTells", unfollowed := true, recurses := true, named := ["math/bits.overflowError"], apart := false }
def IncgTellsSaid : Prop := incgTellsRow.holds Tryz.pinned (OpenSpec.ofChange incgTellsSpec)

/-- ITS FALSE NEIGHBOUR: 'it returns false'. Refute it at one input. -/
def incgTellsWrong : ChangeSpec := { name := "incgTells", fn := fun _ => fun
  | [d1, d2, d3] => { results := [.lit (.bool false)], args := [d1, d2, d3] }
  | _ => none }
def IncgTellsWrongFalsely : Prop := incgTellsRow.holds Tryz.pinned (OpenSpec.ofChange incgTellsWrong)

/-- 'vernierlaw11.IncgSides': WHATEVER THE INPUT: true; the input reads as it did. -/
def incgSidesSpec : ChangeSpec := { name := "incgSides", fn := fun _ => fun
  | [d1, d2, d3] => { results := [.lit (.bool true)], args := [d1, d2, d3] }
  | _ => none }
def incgSidesRow : OpenClaim := { program := "ytemnjalaincijaagreat", sum := "54da0004c399cdab3b7b3a26300e0147cd1d2cd720440de54753e0ba5085157a", func := "vernier/vernierlaw11.IncgSides", spec := "incgSides", unfollowed := true, recurses := true, named := ["math/bits.overflowError"], apart := false }
def IncgSidesSaid : Prop := incgSidesRow.holds Tryz.pinned (OpenSpec.ofChange incgSidesSpec)

/-- ITS FALSE NEIGHBOUR: 'it returns false'. Refute it at one input. -/
def incgSidesWrong : ChangeSpec := { name := "incgSides", fn := fun _ => fun
  | [d1, d2, d3] => { results := [.lit (.bool false)], args := [d1, d2, d3] }
  | _ => none }
def IncgSidesWrongFalsely : Prop := incgSidesRow.holds Tryz.pinned (OpenSpec.ofChange incgSidesWrong)

/-- 'vernierlaw11.IncgBell': WHATEVER THE INPUT: true; the input reads as it did. -/
def incgBellSpec : ChangeSpec := { name := "incgBell", fn := fun _ => fun
  | [d1, d2] => { results := [.lit (.bool true)], args := [d1, d2] }
  | _ => none }
def incgBellRow : OpenClaim := { program := "ytemnjalaincijaagreat", sum := "54da0004c399cdab3b7b3a26300e0147cd1d2cd720440de54753e0ba5085157a", func := "vernier/vernierlaw11.IncgBell", spec := "incgBell", unfollowed := true, recurses := true, named := ["math/bits.overflowError"], apart := false }
def IncgBellSaid : Prop := incgBellRow.holds Tryz.pinned (OpenSpec.ofChange incgBellSpec)

/-- ITS FALSE NEIGHBOUR: 'it returns false'. Refute it at one input. -/
def incgBellWrong : ChangeSpec := { name := "incgBell", fn := fun _ => fun
  | [d1, d2] => { results := [.lit (.bool false)], args := [d1, d2] }
  | _ => none }
def IncgBellWrongFalsely : Prop := incgBellRow.holds Tryz.pinned (OpenSpec.ofChange incgBellWrong)

/-- 'vernierlaw11.IncgWhole': WHATEVER THE INPUT: true; the input reads as it did. -/
def incgWholeSpec : ChangeSpec := { name := "incgWhole", fn := fun _ => fun
  | [d1, d2, d3] => { results := [.lit (.bool true)], args := [d1, d2, d3] }
  | _ => none }
def incgWholeRow : OpenClaim := { program := "ytemnjalaincijaagreat", sum := "54da0004c399cdab3b7b3a26300e0147cd1d2cd720440de54753e0ba5085157a", func := "vernier/vernierlaw11.IncgWhole", spec := "incgWhole", unfollowed := true, recurses := true, named := ["math/bits.overflowError"], apart := false }
def IncgWholeSaid : Prop := incgWholeRow.holds Tryz.pinned (OpenSpec.ofChange incgWholeSpec)

/-- ITS FALSE NEIGHBOUR: 'it returns false'. Refute it at one input. -/
def incgWholeWrong : ChangeSpec := { name := "incgWhole", fn := fun _ => fun
  | [d1, d2, d3] => { results := [.lit (.bool false)], args := [d1, d2, d3] }
  | _ => none }
def IncgWholeWrongFalsely : Prop := incgWholeRow.holds Tryz.pinned (OpenSpec.ofChange incgWholeWrong)

/-- 'vernierlaw10.BellRises': WHATEVER THE INPUT: true; the input reads as it did. -/
def bellRisesSpec : ChangeSpec := { name := "bellRises", fn := fun _ => fun
  | [d1, d2, d3] => { results := [.lit (.bool true)], args := [d1, d2, d3] }
  | _ => none }
def bellRisesRow : OpenClaim := { program := "ytemnjalaincijaagreat", sum := "54da0004c399cdab3b7b3a26300e0147cd1d2cd720440de54753e0ba5085157a", func := "vernier/vernierlaw10.BellRises", spec := "bellRises", unfollowed := true, recurses := true, named := ["math/bits.overflowError"], apart := false }
def BellRisesSaid : Prop := bellRisesRow.holds Tryz.pinned (OpenSpec.ofChange bellRisesSpec)

/-- ITS FALSE NEIGHBOUR: 'it returns false'. Refute it at one input. -/
def bellRisesWrong : ChangeSpec := { name := "bellRises", fn := fun _ => fun
  | [d1, d2, d3] => { results := [.lit (.bool false)], args := [d1, d2, d3] }
  | _ => none }
def BellRisesWrongFalsely : Prop := bellRisesRow.holds Tryz.pinned (OpenSpec.ofChange bellRisesWrong)

/-- 'vernierlaw10.BellPhi': WHATEVER THE INPUT: true; the input reads as it did. -/
def bellPhiSpec : ChangeSpec := { name := "bellPhi", fn := fun _ => fun
  | [d1, d2] => { results := [.lit (.bool true)], args := [d1, d2] }
  | _ => none }
def bellPhiRow : OpenClaim := { program := "ytemnjalaincijaagreat", sum := "54da0004c399cdab3b7b3a26300e0147cd1d2cd720440de54753e0ba5085157a", func := "vernier/vernierlaw10.BellPhi", spec := "bellPhi", unfollowed := true, recurses := true, named := ["math/bits.overflowError"], apart := false }
def BellPhiSaid : Prop := bellPhiRow.holds Tryz.pinned (OpenSpec.ofChange bellPhiSpec)

/-- ITS FALSE NEIGHBOUR: 'it returns false'. Refute it at one input. -/
def bellPhiWrong : ChangeSpec := { name := "bellPhi", fn := fun _ => fun
  | [d1, d2] => { results := [.lit (.bool false)], args := [d1, d2] }
  | _ => none }
def BellPhiWrongFalsely : Prop := bellPhiRow.holds Tryz.pinned (OpenSpec.ofChange bellPhiWrong)

/-- 'vernierlaw10.BellSides': WHATEVER THE INPUT: true; the input reads as it did. -/
def bellSidesSpec : ChangeSpec := { name := "bellSides", fn := fun _ => fun
  | [d1, d2] => { results := [.lit (.bool true)], args := [d1, d2] }
  | _ => none }
def bellSidesRow : OpenClaim := { program := "ytemnjalaincijaagreat", sum := "54da0004c399cdab3b7b3a26300e0147cd1d2cd720440de54753e0ba5085157a", func := "vernier/vernierlaw10.BellSides", spec := "bellSides", unfollowed := true, recurses := true, named := ["math/bits.overflowError"], apart := false }
def BellSidesSaid : Prop := bellSidesRow.holds Tryz.pinned (OpenSpec.ofChange bellSidesSpec)

/-- ITS FALSE NEIGHBOUR: 'it returns false'. Refute it at one input. -/
def bellSidesWrong : ChangeSpec := { name := "bellSides", fn := fun _ => fun
  | [d1, d2] => { results := [.lit (.bool false)], args := [d1, d2] }
  | _ => none }
def BellSidesWrongFalsely : Prop := bellSidesRow.holds Tryz.pinned (OpenSpec.ofChange bellSidesWrong)

/-- 'vernierlaw10.BellErf': WHATEVER THE INPUT: true; the input reads as it did. -/
def bellErfSpec : ChangeSpec := { name := "bellErf", fn := fun _ => fun
  | [d1, d2] => { results := [.lit (.bool true)], args := [d1, d2] }
  | _ => none }
def bellErfRow : OpenClaim := { program := "ytemnjalaincijaagreat", sum := "54da0004c399cdab3b7b3a26300e0147cd1d2cd720440de54753e0ba5085157a", func := "vernier/vernierlaw10.BellErf", spec := "bellErf", unfollowed := true, recurses := true, named := ["math/bits.overflowError"], apart := false }
def BellErfSaid : Prop := bellErfRow.holds Tryz.pinned (OpenSpec.ofChange bellErfSpec)

/-- ITS FALSE NEIGHBOUR: 'it returns false'. Refute it at one input. -/
def bellErfWrong : ChangeSpec := { name := "bellErf", fn := fun _ => fun
  | [d1, d2] => { results := [.lit (.bool false)], args := [d1, d2] }
  | _ => none }
def BellErfWrongFalsely : Prop := bellErfRow.holds Tryz.pinned (OpenSpec.ofChange bellErfWrong)

/-- 'vernierlaw10.BellEven': WHATEVER THE INPUT: true; the input reads as it did. -/
def bellEvenSpec : ChangeSpec := { name := "bellEven", fn := fun _ => fun
  | [d1, d2] => { results := [.lit (.bool true)], args := [d1, d2] }
  | _ => none }
def bellEvenRow : OpenClaim := { program := "ytemnjalaincijaagreat", sum := "54da0004c399cdab3b7b3a26300e0147cd1d2cd720440de54753e0ba5085157a", func := "vernier/vernierlaw10.BellEven", spec := "bellEven", unfollowed := true, recurses := true, named := ["math/bits.overflowError"], apart := false }
def BellEvenSaid : Prop := bellEvenRow.holds Tryz.pinned (OpenSpec.ofChange bellEvenSpec)

/-- ITS FALSE NEIGHBOUR: 'it returns false'. Refute it at one input. -/
def bellEvenWrong : ChangeSpec := { name := "bellEven", fn := fun _ => fun
  | [d1, d2] => { results := [.lit (.bool false)], args := [d1, d2] }
  | _ => none }
def BellEvenWrongFalsely : Prop := bellEvenRow.holds Tryz.pinned (OpenSpec.ofChange bellEvenWrong)

/-- 'vernierlaw14.DistScales': WHATEVER THE INPUT: true; the input reads as it did. -/
def distScalesSpec : ChangeSpec := { name := "distScales", fn := fun _ => fun
  | [d1, d2, d3, d4] => { results := [.lit (.bool true)], args := [d1, d2, d3, d4] }
  | _ => none }
def distScalesRow : OpenClaim := { program := "ytemnjalaincijaagreat", sum := "54da0004c399cdab3b7b3a26300e0147cd1d2cd720440de54753e0ba5085157a", func := "vernier/vernierlaw14.DistScales", spec := "distScales", unfollowed := true, recurses := true, named := ["math/bits.overflowError"], apart := false }
def DistScalesSaid : Prop := distScalesRow.holds Tryz.pinned (OpenSpec.ofChange distScalesSpec)

/-- ITS FALSE NEIGHBOUR: 'it returns false'. Refute it at one input. -/
def distScalesWrong : ChangeSpec := { name := "distScales", fn := fun _ => fun
  | [d1, d2, d3, d4] => { results := [.lit (.bool false)], args := [d1, d2, d3, d4] }
  | _ => none }
def DistScalesWrongFalsely : Prop := distScalesRow.holds Tryz.pinned (OpenSpec.ofChange distScalesWrong)

/-- 'vernierlaw14.DistSigns': WHATEVER THE INPUT: true; the input reads as it did. -/
def distSignsSpec : ChangeSpec := { name := "distSigns", fn := fun _ => fun
  | [d1, d2, d3, d4] => { results := [.lit (.bool true)], args := [d1, d2, d3, d4] }
  | _ => none }
def distSignsRow : OpenClaim := { program := "ytemnjalaincijaagreat", sum := "54da0004c399cdab3b7b3a26300e0147cd1d2cd720440de54753e0ba5085157a", func := "vernier/vernierlaw14.DistSigns", spec := "distSigns", unfollowed := true, recurses := true, named := ["math/bits.overflowError"], apart := false }
def DistSignsSaid : Prop := distSignsRow.holds Tryz.pinned (OpenSpec.ofChange distSignsSpec)

/-- ITS FALSE NEIGHBOUR: 'it returns false'. Refute it at one input. -/
def distSignsWrong : ChangeSpec := { name := "distSigns", fn := fun _ => fun
  | [d1, d2, d3, d4] => { results := [.lit (.bool false)], args := [d1, d2, d3, d4] }
  | _ => none }
def DistSignsWrongFalsely : Prop := distSignsRow.holds Tryz.pinned (OpenSpec.ofChange distSignsWrong)

/- THE SECOND FORM. 'bulk': how many values and letters a reading holds, each counted each time it is reached (what is shared counts as often as it is met; a slice's spare places count too). A statement '..UptoSaid' is the law's where the arguments, and the package variables that the reading takes, are together of bulk at most 1048576: NARROWER than '..Said'. Prove '..Said' where nothing that the law and all that it calls make is longer than what came in: it says more and counts as full. Else prove '..UptoSaid'. A law counts once. -/
mutual
def uptoBulk {H : Type} : DataW H → Nat
  | .lit (.string bytes) => bytes.length + 1
  | .lit _ => 1
  | .nil => 1
  | .ptr d => uptoBulk d + 1
  | .slice elems spare => uptoBulkAll elems + uptoBulkAll spare + 1
  | .agg parts => uptoBulkAll parts + 1
  | .iface _ d => uptoBulk d + 1
  | .map entries => uptoBulkEntries entries + 1
  | .held _ => 1
def uptoBulkAll {H : Type} : List (DataW H) → Nat
  | [] => 0
  | d :: r => uptoBulk d + uptoBulkAll r
def uptoBulkEntries {H : Type} : List (Lit × DataW H) → Nat
  | [] => 0
  | x :: r => uptoBulkEntry x + uptoBulkEntries r
def uptoBulkEntry {H : Type} : Lit × DataW H → Nat
  | (.string bytes, d) => bytes.length + uptoBulk d + 1
  | (_, d) => uptoBulk d + 1
 end
def uptoSmall : (H : Type) → List (DataW H) → Bool := fun _ ds => decide (uptoBulkAll ds ≤ 1048576)
def OpenSpec.upto (s : _root_.Go.ChangeSpec) : _root_.Go.OpenSpec := { _root_.Go.OpenSpec.ofChange s with cond := some uptoSmall }

/-- 'vernierlaw11.IncgFalls', WHERE WHAT IT READS IS OF BULK AT MOST 1048576: true; the input reads as it did. -/
def incgFallsUptoRow : OpenClaim := { program := "ytemnjalaincijaagreat", sum := "54da0004c399cdab3b7b3a26300e0147cd1d2cd720440de54753e0ba5085157a", func := "vernier/vernierlaw11.IncgFalls", spec := "incgFalls", unfollowed := true, recurses := true, named := ["math/bits.overflowError"], apart := false, narrowed := true }
def IncgFallsUptoSaid : Prop := incgFallsUptoRow.holds Tryz.pinned (OpenSpec.upto incgFallsSpec)

/-- 'vernierlaw11.IncgTells', WHERE WHAT IT READS IS OF BULK AT MOST 1048576: true; the input reads as it did. -/
def incgTellsUptoRow : OpenClaim := { program := "ytemnjalaincijaagreat", sum := "54da0004c399cdab3b7b3a26300e0147cd1d2cd720440de54753e0ba5085157a", func := "vernier/vernierlaw11.IncgTells", spec := "incgTells", unfollowed := true, recurses := true, named := ["math/bits.overflowError"], apart := false, narrowed := true }
def IncgTellsUptoSaid : Prop := incgTellsUptoRow.holds Tryz.pinned (OpenSpec.upto incgTellsSpec)

/-- 'vernierlaw11.IncgSides', WHERE WHAT IT READS IS OF BULK AT MOST 1048576: true; the input reads as it did. -/
def incgSidesUptoRow : OpenClaim := { program := "ytemnjalaincijaagreat", sum := "54da0004c399cdab3b7b3a26300e0147cd1d2cd720440de54753e0ba5085157a", func := "vernier/vernierlaw11.IncgSides", spec := "incgSides", unfollowed := true, recurses := true, named := ["math/bits.overflowError"], apart := false, narrowed := true }
def IncgSidesUptoSaid : Prop := incgSidesUptoRow.holds Tryz.pinned (OpenSpec.upto incgSidesSpec)

/-- 'vernierlaw11.IncgBell', WHERE WHAT IT READS IS OF BULK AT MOST 1048576: true; the input reads as it did. -/
def incgBellUptoRow : OpenClaim := { program := "ytemnjalaincijaagreat", sum := "54da0004c399cdab3b7b3a26300e0147cd1d2cd720440de54753e0ba5085157a", func := "vernier/vernierlaw11.IncgBell", spec := "incgBell", unfollowed := true, recurses := true, named := ["math/bits.overflowError"], apart := false, narrowed := true }
def IncgBellUptoSaid : Prop := incgBellUptoRow.holds Tryz.pinned (OpenSpec.upto incgBellSpec)

/-- 'vernierlaw11.IncgWhole', WHERE WHAT IT READS IS OF BULK AT MOST 1048576: true; the input reads as it did. -/
def incgWholeUptoRow : OpenClaim := { program := "ytemnjalaincijaagreat", sum := "54da0004c399cdab3b7b3a26300e0147cd1d2cd720440de54753e0ba5085157a", func := "vernier/vernierlaw11.IncgWhole", spec := "incgWhole", unfollowed := true, recurses := true, named := ["math/bits.overflowError"], apart := false, narrowed := true }
def IncgWholeUptoSaid : Prop := incgWholeUptoRow.holds Tryz.pinned (OpenSpec.upto incgWholeSpec)

/-- 'vernierlaw10.BellRises', WHERE WHAT IT READS IS OF BULK AT MOST 1048576: true; the input reads as it did. -/
def bellRisesUptoRow : OpenClaim := { program := "ytemnjalaincijaagreat", sum := "54da0004c399cdab3b7b3a26300e0147cd1d2cd720440de54753e0ba5085157a", func := "vernier/vernierlaw10.BellRises", spec := "bellRises", unfollowed := true, recurses := true, named := ["math/bits.overflowError"], apart := false, narrowed := true }
def BellRisesUptoSaid : Prop := bellRisesUptoRow.holds Tryz.pinned (OpenSpec.upto bellRisesSpec)

/-- 'vernierlaw10.BellPhi', WHERE WHAT IT READS IS OF BULK AT MOST 1048576: true; the input reads as it did. -/
def bellPhiUptoRow : OpenClaim := { program := "ytemnjalaincijaagreat", sum := "54da0004c399cdab3b7b3a26300e0147cd1d2cd720440de54753e0ba5085157a", func := "vernier/vernierlaw10.BellPhi", spec := "bellPhi", unfollowed := true, recurses := true, named := ["math/bits.overflowError"], apart := false, narrowed := true }
def BellPhiUptoSaid : Prop := bellPhiUptoRow.holds Tryz.pinned (OpenSpec.upto bellPhiSpec)

/-- 'vernierlaw10.BellSides', WHERE WHAT IT READS IS OF BULK AT MOST 1048576: true; the input reads as it did. -/
def bellSidesUptoRow : OpenClaim := { program := "ytemnjalaincijaagreat", sum := "54da0004c399cdab3b7b3a26300e0147cd1d2cd720440de54753e0ba5085157a", func := "vernier/vernierlaw10.BellSides", spec := "bellSides", unfollowed := true, recurses := true, named := ["math/bits.overflowError"], apart := false, narrowed := true }
def BellSidesUptoSaid : Prop := bellSidesUptoRow.holds Tryz.pinned (OpenSpec.upto bellSidesSpec)

/-- 'vernierlaw10.BellErf', WHERE WHAT IT READS IS OF BULK AT MOST 1048576: true; the input reads as it did. -/
def bellErfUptoRow : OpenClaim := { program := "ytemnjalaincijaagreat", sum := "54da0004c399cdab3b7b3a26300e0147cd1d2cd720440de54753e0ba5085157a", func := "vernier/vernierlaw10.BellErf", spec := "bellErf", unfollowed := true, recurses := true, named := ["math/bits.overflowError"], apart := false, narrowed := true }
def BellErfUptoSaid : Prop := bellErfUptoRow.holds Tryz.pinned (OpenSpec.upto bellErfSpec)

/-- 'vernierlaw10.BellEven', WHERE WHAT IT READS IS OF BULK AT MOST 1048576: true; the input reads as it did. -/
def bellEvenUptoRow : OpenClaim := { program := "ytemnjalaincijaagreat", sum := "54da0004c399cdab3b7b3a26300e0147cd1d2cd720440de54753e0ba5085157a", func := "vernier/vernierlaw10.BellEven", spec := "bellEven", unfollowed := true, recurses := true, named := ["math/bits.overflowError"], apart := false, narrowed := true }
def BellEvenUptoSaid : Prop := bellEvenUptoRow.holds Tryz.pinned (OpenSpec.upto bellEvenSpec)

/-- 'vernierlaw14.DistScales', WHERE WHAT IT READS IS OF BULK AT MOST 1048576: true; the input reads as it did. -/
def distScalesUptoRow : OpenClaim := { program := "ytemnjalaincijaagreat", sum := "54da0004c399cdab3b7b3a26300e0147cd1d2cd720440de54753e0ba5085157a", func := "vernier/vernierlaw14.DistScales", spec := "distScales", unfollowed := true, recurses := true, named := ["math/bits.overflowError"], apart := false, narrowed := true }
def DistScalesUptoSaid : Prop := distScalesUptoRow.holds Tryz.pinned (OpenSpec.upto distScalesSpec)

/-- 'vernierlaw14.DistSigns', WHERE WHAT IT READS IS OF BULK AT MOST 1048576: true; the input reads as it did. -/
def distSignsUptoRow : OpenClaim := { program := "ytemnjalaincijaagreat", sum := "54da0004c399cdab3b7b3a26300e0147cd1d2cd720440de54753e0ba5085157a", func := "vernier/vernierlaw14.DistSigns", spec := "distSigns", unfollowed := true, recurses := true, named := ["math/bits.overflowError"], apart := false, narrowed := true }
def DistSignsUptoSaid : Prop := distSignsUptoRow.holds Tryz.pinned (OpenSpec.upto distSignsSpec)

end Rows
end Go.Proofs.YtemnjalaincijaaGreat
