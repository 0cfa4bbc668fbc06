/-
  The statement 'Rows.TestChancesSaid' is proved: of every input the law 'vernier/vernierlaw19.TestChances' gives true and leaves its arguments as they were. No condition.
-/
import Derived.Test.YtfknkoeagjonbaaGreatRows
import Derived.WalkKit
import Derived.Test.YtfknkoeagjonbaaGreatPart11
import Derived.ProofKit
import Derived.OpenShut
namespace Go.Proofs.YtfknkoeagjonbaaGreat.testChances
open Go.ChangeShapes Go.WideShapes Go.ChangeAt Go.RowKit
set_option linter.unusedSimpArgs false
set_option linter.unusedVariables false
set_option maxRecDepth 100000

theorem own : ownKnob Tryz.prog.godebug = none := by kernel_rfl

theorem walk (w : World) (ss0 : List Go.Ev.SV) (sh0 : Go.Ev.ShpT Tryz.prog 8 41 ss0) (v0 : Value) (rp0 : Go.Ev.Rep w (fun _ => False) v0 (.agg ss0)) (a1 : Int) (w1 : (Lit.int .i64 a1).wf = true) :
    Calls Tryz.prog 4 #[v0, .int .i64 a1] w fun e w' => e = .returned (.bool true) ∧ Below w.heap.size w w' := by
  obtain ⟨n, e, hn⟩ := chances_law ss0 sh0 a1 w1
  refine (Go.Ev.callN_calls XL_ok good_ok hn (Go.Ev.enters_of (fn := Tryz.f4) (c := (Tryz.f4).body.get!) (by kernel_rfl) (by kernel_rfl) (by kernel_rfl)) (vals := #[v0, .int .i64 a1]) rfl ?_).mono ?_
  · intro i x hx
    match i with
    | 0 => simp only [yL, yW, Option.some.injEq] at hx; subst hx; exact rp0
    | 1 => simp only [yL, yW, Option.some.injEq] at hx; subst hx; exact .int _ _
    | _ + 2 => simp at hx
  · rintro e' w' ⟨v, rfl, hr, hb⟩
    cases hr
    exact ⟨rfl, hb⟩


theorem lifted (os : Os) (started : os.Started) (H : Type) (enc : TypeId × Value → H) :
    ReturnsInHanded {} Tryz.checked os 4 .any (Rows.testChancesSpec.pre6 enc Tryz.prog Tryz.f4 Rows.testChancesRow.domain false) (Rows.testChancesSpec.post enc Tryz.prog Tryz.f4 false true false false) := by
  refine returnsInHanded_of_change (C := Tryz.checked) own started (by kernel_rfl) Tryz.func4
    (ChangeSpec.witness6 (enc := enc) (C := Tryz.checked) false ⟨#[], #[.agg #[.int .i64 0, .slice none 0 0, .slice none 0 0, .slice none 0 0, .bool false, .slice none 0 0, .slice none 0 0, .bool false, .slice none 0 0, .slice none 0 0, .int .i64 0, .int .i64 0], .int .i64 0], []⟩ 8 (by kernel_rfl) (by kernel_rfl) (by kernel_rfl) (by kernel_rfl)) ?_
  intro W base args ds gs before hval0 hW hcnd _
  have hval : ∀ (j : Nat) t v, Tryz.f4.params[j]? = some t → args[j]? = some v → Value.okWide Tryz.prog W .any base t v := hval0
  have hW' := hW
  obtain ⟨p, q, hA0, hV, rfl, hfz, hnd⟩ := hW
  have hA : DataW.TrodAll enc Tryz.prog W 0 (fun _ => true) true Tryz.f4.params.toList args.toList ds p := hA0
  rw [Tryz.params4] at hA hval
  obtain ⟨v0, vs0, d0, ds0, p0, q0, hargs, rfl, rfl, h0, r0⟩ := trodAll_cons hA
  obtain ⟨v1, vs1, d1, ds1, p1, q1, rfl, rfl, rfl, h1, r1⟩ := trodAll_cons r0
  obtain ⟨rfl, rfl, rfl⟩ := trodAll_nil r1
  obtain rfl : args = #[v0, v1] := by cases args; simp_all
  obtain ⟨rfl, rfl⟩ := trodVars_none hV
  obtain ⟨ss0, rp0, sh0⟩ := open_plain (m := 8) (by kernel_rfl) Tryz.underlying41 (hval 0 41 v0 rfl rfl) h0
  obtain ⟨a1, rfl, rfl, rfl, w1⟩ := open_int Tryz.underlying3 (hval 1 3 v1 rfl rfl) h1
  clear hval0
  refine (walk W ss0 sh0 v0 rp0 a1 w1).mono fun e W' ⟨he, hg⟩ => ?_
  subst he
  refine ⟨_, rfl, post_of_below (pv := []) hW' (fun _ _ _ => (trodAll_cons_mk (shut_bool Tryz.underlying4 _) trodAll_mk0)) (fun sp hsp => trodAll_stays (by kernel_rfl) hg (by kernel_rfl) hA0 (fun x hx => hW'.lt x (wD _ hx)) (fun x hx => hsp x (wD _ hx))) (fun _ _ => rfl) rfl
    hg (ok_one (by kernel_rfl) rfl (okWide_bool_mk Tryz.underlying4 _))⟩

theorem over : Rows.testChancesRow.holds Tryz.pinned (OpenSpec.ofChange Rows.testChancesSpec) :=
  OpenClaim.holds_of_wide 4 Tryz.f4 rfl rfl rfl rfl rfl rfl rfl ⟨rfl, rfl, rfl, rfl, rfl⟩ rfl rfl rfl rfl rfl (by kernel_rfl) Tryz.func4 (by kernel_rfl)
    (of_decide_eq_true (by kernel_rfl)) (by unfold Func.isWrapper; first | (rw [if_pos (by decide +kernel)]; kernel_rfl) | (rw [if_neg (by decide +kernel)]; exact ⟨rfl, rfl⟩))
    (fun os started H enc _ => lifted os started H enc)

/-- The statement. -/
theorem proved : Rows.TestChancesSaid :=
  over
#print axioms proved
end Go.Proofs.YtfknkoeagjonbaaGreat.testChances
