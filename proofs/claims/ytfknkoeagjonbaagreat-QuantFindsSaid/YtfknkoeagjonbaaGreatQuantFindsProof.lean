/-
  The statement 'Rows.QuantFindsSaid' is proved: of every input the law 'vernier/vernierlaw15.QuantFinds' gives true and leaves its arguments as they were. No condition.
-/
import Derived.Test.YtfknkoeagjonbaaGreatRows
import Derived.WalkKit
import Derived.Test.YtfknkoeagjonbaaGreatPart10
import Derived.ProofKit
import Derived.OpenShut
namespace Go.Proofs.YtfknkoeagjonbaaGreat.quantFinds
open Go.ChangeShapes Go.WideShapes Go.ChangeAt Go.RowKit
set_option linter.unusedSimpArgs false
set_option linter.unusedVariables false
set_option maxRecDepth 100000

theorem own : ownKnob Tryz.prog.godebug = none := by kernel_rfl

theorem walk (w : World) (ss0 : List Go.Ev.SV) (sh0 : Go.Ev.ShpT Tryz.prog 6 26 ss0) (v0 : Value) (rp0 : Go.Ev.Rep w (fun _ => False) v0 (.agg ss0)) (ss1 : List Go.Ev.SV) (sh1 : Go.Ev.ShpT Tryz.prog 6 24 ss1) (v1 : Value) (rp1 : Go.Ev.Rep w (fun _ => False) v1 (.agg ss1)) (a2 : Int) (w2 : (Lit.int .i64 a2).wf = true) :
    Calls Tryz.prog 3 #[v0, v1, .int .i64 a2] w fun e w' => e = .returned (.bool true) ∧ Below w.heap.size w w' := by
  obtain ⟨n, e, hn⟩ := finds_law ss0 sh0 ss1 sh1 a2 w2
  refine (Go.Ev.callN_calls XL_ok good_ok hn (Go.Ev.enters_of (fn := Tryz.f3) (c := (Tryz.f3).body.get!) (by kernel_rfl) (by kernel_rfl) (by kernel_rfl)) (vals := #[v0, v1, .int .i64 a2]) rfl ?_).mono ?_
  · intro i x hx
    match i with
    | 0 => simp only [yK, yQ, Option.some.injEq] at hx; subst hx; exact rp0
    | 1 => simp only [yK, yQ, Option.some.injEq] at hx; subst hx; exact rp1
    | 2 => simp only [yK, yQ, Option.some.injEq] at hx; subst hx; exact .int _ _
    | _ + 3 => simp at hx
  · rintro e' w' ⟨v, rfl, hr, hb⟩
    cases hr
    exact ⟨rfl, hb⟩


theorem lifted (os : Os) (started : os.Started) (H : Type) (enc : TypeId × Value → H) :
    ReturnsInHanded {} Tryz.checked os 3 .any (Rows.quantFindsSpec.pre6 enc Tryz.prog Tryz.f3 Rows.quantFindsRow.domain false) (Rows.quantFindsSpec.post enc Tryz.prog Tryz.f3 false true false false) := by
  refine returnsInHanded_of_change (C := Tryz.checked) own started (by kernel_rfl) Tryz.func3
    (ChangeSpec.witness6 (enc := enc) (C := Tryz.checked) false ⟨#[], #[.agg #[.int .i64 0, .int .i64 0, .int .i64 0, .bool false, .slice none 0 0, .slice none 0 0, .bool false, .slice none 0 0, .slice none 0 0], .agg #[.bool false, .slice none 0 0, .slice none 0 0], .int .i64 0], []⟩ 8 (by kernel_rfl) (by kernel_rfl) (by kernel_rfl) (by kernel_rfl)) ?_
  intro W base args ds gs before hval0 hW hcnd _
  have hval : ∀ (j : Nat) t v, Tryz.f3.params[j]? = some t → args[j]? = some v → Value.okWide Tryz.prog W .any base t v := hval0
  have hW' := hW
  obtain ⟨p, q, hA0, hV, rfl, hfz, hnd⟩ := hW
  have hA : DataW.TrodAll enc Tryz.prog W 0 (fun _ => true) true Tryz.f3.params.toList args.toList ds p := hA0
  rw [Tryz.params3] at hA hval
  obtain ⟨v0, vs0, d0, ds0, p0, q0, hargs, rfl, rfl, h0, r0⟩ := trodAll_cons hA
  obtain ⟨v1, vs1, d1, ds1, p1, q1, rfl, rfl, rfl, h1, r1⟩ := trodAll_cons r0
  obtain ⟨v2, vs2, d2, ds2, p2, q2, rfl, rfl, rfl, h2, r2⟩ := trodAll_cons r1
  obtain ⟨rfl, rfl, rfl⟩ := trodAll_nil r2
  obtain rfl : args = #[v0, v1, v2] := by cases args; simp_all
  obtain ⟨rfl, rfl⟩ := trodVars_none hV
  obtain ⟨ss0, rp0, sh0⟩ := open_plain (m := 6) (by kernel_rfl) Tryz.underlying26 (hval 0 26 v0 rfl rfl) h0
  obtain ⟨ss1, rp1, sh1⟩ := open_plain (m := 6) (by kernel_rfl) Tryz.underlying24 (hval 1 24 v1 rfl rfl) h1
  obtain ⟨a2, rfl, rfl, rfl, w2⟩ := open_int Tryz.underlying3 (hval 2 3 v2 rfl rfl) h2
  clear hval0
  refine (walk W ss0 sh0 v0 rp0 ss1 sh1 v1 rp1 a2 w2).mono fun e W' ⟨he, hg⟩ => ?_
  subst he
  refine ⟨_, rfl, post_of_below (pv := []) hW' (fun _ _ _ => (trodAll_cons_mk (shut_bool Tryz.underlying4 _) trodAll_mk0)) (fun sp hsp => trodAll_stays (by kernel_rfl) hg (by kernel_rfl) hA0 (fun x hx => hW'.lt x (wH _ hx)) (fun x hx => hsp x (wH _ hx))) (fun _ _ => rfl) rfl
    hg (ok_one (by kernel_rfl) rfl (okWide_bool_mk Tryz.underlying4 _))⟩

theorem over : Rows.quantFindsRow.holds Tryz.pinned (OpenSpec.ofChange Rows.quantFindsSpec) :=
  OpenClaim.holds_of_wide 3 Tryz.f3 rfl rfl rfl rfl rfl rfl rfl ⟨rfl, rfl, rfl, rfl, rfl⟩ rfl rfl rfl rfl rfl (by kernel_rfl) Tryz.func3 (by kernel_rfl)
    (of_decide_eq_true (by kernel_rfl)) (by unfold Func.isWrapper; first | (rw [if_pos (by decide +kernel)]; kernel_rfl) | (rw [if_neg (by decide +kernel)]; exact ⟨rfl, rfl⟩))
    (fun os started H enc _ => lifted os started H enc)

/-- The statement. -/
theorem proved : Rows.QuantFindsSaid :=
  over
#print axioms proved
end Go.Proofs.YtfknkoeagjonbaaGreat.quantFinds
