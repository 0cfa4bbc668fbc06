/-
  No cell of these rows narrows 'for every input' (looked for: loops, veiled, ifaces, maps, wideKeys, modest, calm, conditions, laid).
  DERIVED. THE GIVEN ROWS OF THIS SEAT. 3 by the template 'for every input the law returns true; each argument reads behind the call as it read before'; 0 by the template 'total and deterministic' (their statements: YtigiblhmhmgagaaGreatTotals.lean).
  GIVEN WITH THE SEED: the statements are not yours to turn. If you find one false, say at which input.
  Laid BY PROGRAM, IN A SANDBOX (cutbox-rows.mjs): the forced cells as the released guide's own fill.sh prints them over the translation fe1569790509b3ae… (all of the seat's roots in one cut). By AI agents, Wed Nov 11 2026. No macro, syntax, notation, axiom, sorry.
-/
import Derived.Test.YtigiblhmhmgagaaGreatChecked
import GoSem.Claim
import GoSem.ClaimJoined
import GoSem.ClaimMapViews
import Derived.JoinedTies
import Derived.KernelRfl
namespace Go.Proofs.YtigiblhmhmgagaaGreat
/- THE CELL 'sum', in the pinned program and in every row, IS THE sha256 OF THE DUMP (.gsa) THAT YtigiblhmhmgagaaGreatProg.lean LOADS. Nothing in Lean hashes anything: it is a label: what it is worth is what the hold of that sum in a sandbox is worth. -/
noncomputable def Tryz.pinned : Pinned := { name := "ytigiblhmhmgagaagreat", sum := "fe1569790509b3aeaf6beda15f536ac53ae96e6e4b3cd7ed2f7aa22c1422fd7a", checked := Tryz.checked }
namespace Rows
def none {H : Type} : Left H := { results := [], args := [] }

/-- 'vernierlaw12.IncbTells': WHATEVER THE INPUT: true; the input reads as it did. -/
def incbTellsSpec : ChangeSpec := { name := "incbTells", fn := fun _ => fun
  | [d1, d2, d3, d4] => { results := [.lit (.bool true)], args := [d1, d2, d3, d4] }
  | _ => none }
def incbTellsRow : OpenClaim := { program := "ytigiblhmhmgagaagreat", sum := "fe1569790509b3aeaf6beda15f536ac53ae96e6e4b3cd7ed2f7aa22c1422fd7a", func := "vernier/vernierlaw12.IncbTells", spec := "incbTells", unfollowed := true, recurses := true, named := ["math/bits.overflowError"], apart := false }
def IncbTellsSaid : Prop := incbTellsRow.holds Tryz.pinned (OpenSpec.ofChange incbTellsSpec)

/-- ITS FALSE NEIGHBOUR: 'it returns false'. Refute it at one input. -/
def incbTellsWrong : ChangeSpec := { name := "incbTells", fn := fun _ => fun
  | [d1, d2, d3, d4] => { results := [.lit (.bool false)], args := [d1, d2, d3, d4] }
  | _ => none }
def IncbTellsWrongFalsely : Prop := incbTellsRow.holds Tryz.pinned (OpenSpec.ofChange incbTellsWrong)

/-- 'vernierlaw12.IncbSides': WHATEVER THE INPUT: true; the input reads as it did. -/
def incbSidesSpec : ChangeSpec := { name := "incbSides", fn := fun _ => fun
  | [d1, d2, d3, d4] => { results := [.lit (.bool true)], args := [d1, d2, d3, d4] }
  | _ => none }
def incbSidesRow : OpenClaim := { program := "ytigiblhmhmgagaagreat", sum := "fe1569790509b3aeaf6beda15f536ac53ae96e6e4b3cd7ed2f7aa22c1422fd7a", func := "vernier/vernierlaw12.IncbSides", spec := "incbSides", unfollowed := true, recurses := true, named := ["math/bits.overflowError"], apart := false }
def IncbSidesSaid : Prop := incbSidesRow.holds Tryz.pinned (OpenSpec.ofChange incbSidesSpec)

/-- ITS FALSE NEIGHBOUR: 'it returns false'. Refute it at one input. -/
def incbSidesWrong : ChangeSpec := { name := "incbSides", fn := fun _ => fun
  | [d1, d2, d3, d4] => { results := [.lit (.bool false)], args := [d1, d2, d3, d4] }
  | _ => none }
def IncbSidesWrongFalsely : Prop := incbSidesRow.holds Tryz.pinned (OpenSpec.ofChange incbSidesWrong)

/-- 'vernierlaw12.IncbRises': WHATEVER THE INPUT: true; the input reads as it did. -/
def incbRisesSpec : ChangeSpec := { name := "incbRises", fn := fun _ => fun
  | [d1, d2, d3, d4, d5] => { results := [.lit (.bool true)], args := [d1, d2, d3, d4, d5] }
  | _ => none }
def incbRisesRow : OpenClaim := { program := "ytigiblhmhmgagaagreat", sum := "fe1569790509b3aeaf6beda15f536ac53ae96e6e4b3cd7ed2f7aa22c1422fd7a", func := "vernier/vernierlaw12.IncbRises", spec := "incbRises", unfollowed := true, recurses := true, named := ["math/bits.overflowError"], apart := false }
def IncbRisesSaid : Prop := incbRisesRow.holds Tryz.pinned (OpenSpec.ofChange incbRisesSpec)

/-- ITS FALSE NEIGHBOUR: 'it returns false'. Refute it at one input. -/
def incbRisesWrong : ChangeSpec := { name := "incbRises", fn := fun _ => fun
  | [d1, d2, d3, d4, d5] => { results := [.lit (.bool false)], args := [d1, d2, d3, d4, d5] }
  | _ => none }
def IncbRisesWrongFalsely : Prop := incbRisesRow.holds Tryz.pinned (OpenSpec.ofChange incbRisesWrong)

/- THE SECOND FORM. 'bulk': how many values and letters a reading holds, each counted each time it is reached (what is shared counts as often as it is met; a slice's spare places count too). A statement '..UptoSaid' is the law's where the arguments, and the package variables that the reading takes, are together of bulk at most 1048576: NARROWER than '..Said'. Prove '..Said' where nothing that the law and all that it calls make is longer than what came in: it says more and counts as full. Else prove '..UptoSaid'. A law counts once. -/
mutual
def uptoBulk {H : Type} : DataW H → Nat
  | .lit (.string bytes) => bytes.length + 1
  | .lit _ => 1
  | .nil => 1
  | .ptr d => uptoBulk d + 1
  | .slice elems spare => uptoBulkAll elems + uptoBulkAll spare + 1
  | .agg parts => uptoBulkAll parts + 1
  | .iface _ d => uptoBulk d + 1
  | .map entries => uptoBulkEntries entries + 1
  | .held _ => 1
def uptoBulkAll {H : Type} : List (DataW H) → Nat
  | [] => 0
  | d :: r => uptoBulk d + uptoBulkAll r
def uptoBulkEntries {H : Type} : List (Lit × DataW H) → Nat
  | [] => 0
  | x :: r => uptoBulkEntry x + uptoBulkEntries r
def uptoBulkEntry {H : Type} : Lit × DataW H → Nat
  | (.string bytes, d) => bytes.length + uptoBulk d + 1
  | (_, d) => uptoBulk d + 1
 end
def uptoSmall : (H : Type) → List (DataW H) → Bool := fun _ ds => decide (uptoBulkAll ds ≤ 1048576)
def OpenSpec.upto (s : _root_.Go.ChangeSpec) : _root_.Go.OpenSpec := { _root_.Go.OpenSpec.ofChange s with cond := some uptoSmall }

/-- 'vernierlaw12.IncbTells', WHERE WHAT IT READS IS OF BULK AT MOST 1048576: true; the input reads as it did. -/
def incbTellsUptoRow : OpenClaim := { program := "ytigiblhmhmgagaagreat", sum := "fe1569790509b3aeaf6beda15f536ac53ae96e6e4b3cd7ed2f7aa22c1422fd7a", func := "vernier/vernierlaw12.IncbTells", spec := "incbTells", unfollowed := true, recurses := true, named := ["math/bits.overflowError"], apart := false, narrowed := true }
def IncbTellsUptoSaid : Prop := incbTellsUptoRow.holds Tryz.pinned (OpenSpec.upto incbTellsSpec)

/-- 'vernierlaw12.IncbSides', WHERE WHAT IT READS IS OF BULK AT MOST 1048576: true; the input reads as it did. -/
def incbSidesUptoRow : OpenClaim := { program := "ytigiblhmhmgagaagreat", sum := "fe1569790509b3aeaf6beda15f536ac53ae96e6e4b3cd7ed2f7aa22c1422fd7a", func := "vernier/vernierlaw12.IncbSides", spec := "incbSides", unfollowed := true, recurses := true, named := ["math/bits.overflowError"], apart := false, narrowed := true }
def IncbSidesUptoSaid : Prop := incbSidesUptoRow.holds Tryz.pinned (OpenSpec.upto incbSidesSpec)

/-- 'vernierlaw12.IncbRises', WHERE WHAT IT READS IS OF BULK AT MOST 1048576: true; the input reads as it did. -/
def incbRisesUptoRow : OpenClaim := { program := "ytigiblhmhmgagaagreat", sum := "fe1569790509b3aeaf6beda15f536ac53ae96e6e4b3cd7ed2f7aa22c1422fd7a", func := "vernier/vernierlaw12.IncbRises", spec := "incbRises", unfollowed := true, recurses := true, named := ["math/bits.overflowError"], apart := false, narrowed := true }
def IncbRisesUptoSaid : Prop := incbRisesUptoRow.holds Tryz.pinned (OpenSpec.upto incbRisesSpec)

end Rows
end Go.Proofs.YtigiblhmhmgagaaGreat
