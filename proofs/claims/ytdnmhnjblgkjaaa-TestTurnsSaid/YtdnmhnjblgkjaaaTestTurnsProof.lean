/-
  The statement 'Rows.TestTurnsSaid' is proved: of every input the law 'vernier/vernierlaw19.TestTurns' gives true and leaves its arguments as they were. No condition.
-/
import Derived.Test.YtdnmhnjblgkjaaaRows
import Derived.WalkKit
import Derived.Test.YtdnmhnjblgkjaaaPart11
import Derived.ProofKit
import Derived.OpenShut
namespace Go.Proofs.Ytdnmhnjblgkjaaa.testTurns
open Go.ChangeShapes Go.WideShapes Go.ChangeAt Go.RowKit
set_option linter.unusedSimpArgs false
set_option linter.unusedVariables false
set_option maxRecDepth 100000

theorem own : ownKnob Try.prog.godebug = none := by kernel_rfl

theorem walk (w : World) (s0 : Go.Ev.SV) (sh0 : Go.Ev.ShpT Try.prog 7 39 [s0]) (v0 : Value) (rp0 : Go.Ev.Rep w (fun _ => False) v0 s0) (s1 : Go.Ev.SV) (sh1 : Go.Ev.ShpT Try.prog 7 39 [s1]) (v1 : Value) (rp1 : Go.Ev.Rep w (fun _ => False) v1 s1) :
    Calls Try.prog 6 #[v0, v1] w fun e w' => e = .returned (.bool true) ∧ Below w.heap.size w w' := by
  obtain ⟨n, e, hn⟩ := test_turns s0 sh0 s1 sh1
  refine (Go.Ev.callN_calls XL_ok good_ok hn (vals := #[v0, v1]) rfl ?_).mono ?_
  · intro i x hx
    match i with
    | 0 => simp only [List.getElem?_cons_zero, List.getElem?_cons_succ, Option.some.injEq] at hx; subst hx; exact rp0
    | 1 => simp only [List.getElem?_cons_zero, List.getElem?_cons_succ, Option.some.injEq] at hx; subst hx; exact rp1
    | _ + 2 => simp at hx
  · rintro e' w' ⟨v, rfl, hr, hb⟩
    cases hr
    exact ⟨rfl, hb⟩


theorem lifted (os : Os) (started : os.Started) (H : Type) (enc : TypeId × Value → H) :
    ReturnsInHanded {} Try.checked os 6 .any (Rows.testTurnsSpec.pre6 enc Try.prog Try.f6 Rows.testTurnsRow.domain false) (Rows.testTurnsSpec.post enc Try.prog Try.f6 false true false false) := by
  refine returnsInHanded_of_change (C := Try.checked) own started (by kernel_rfl) Try.func6
    (ChangeSpec.witness6 (enc := enc) (C := Try.checked) false ⟨#[], #[.slice none 0 0, .slice none 0 0], []⟩ 8 (by kernel_rfl) (by kernel_rfl) (by kernel_rfl) (by kernel_rfl)) ?_
  intro W base args ds gs before hval0 hW hcnd _
  have hval : ∀ (j : Nat) t v, Try.f6.params[j]? = some t → args[j]? = some v → Value.okWide Try.prog W .any base t v := hval0
  have hW' := hW
  obtain ⟨p, q, hA0, hV, rfl, hfz, hnd⟩ := hW
  have hA : DataW.TrodAll enc Try.prog W 0 (fun _ => true) true Try.f6.params.toList args.toList ds p := hA0
  rw [Try.params6] at hA hval
  obtain ⟨v0, vs0, d0, ds0, p0, q0, hargs, rfl, rfl, h0, r0⟩ := trodAll_cons hA
  obtain ⟨v1, vs1, d1, ds1, p1, q1, rfl, rfl, rfl, h1, r1⟩ := trodAll_cons r0
  obtain ⟨rfl, rfl, rfl⟩ := trodAll_nil r1
  obtain rfl : args = #[v0, v1] := by cases args; simp_all
  obtain ⟨rfl, rfl⟩ := trodVars_none hV
  obtain ⟨s0, rp0, sh0⟩ := open_slice (m := 7) (by kernel_rfl) Try.underlying39 (hval 0 39 v0 rfl rfl) h0
  obtain ⟨s1, rp1, sh1⟩ := open_slice (m := 7) (by kernel_rfl) Try.underlying39 (hval 1 39 v1 rfl rfl) h1
  clear hval0
  refine (walk W s0 sh0 v0 rp0 s1 sh1 v1 rp1).mono fun e W' ⟨he, hg⟩ => ?_
  subst he
  refine ⟨_, rfl, post_of_below (pv := []) hW' (fun _ _ _ => (trodAll_cons_mk (shut_bool Try.underlying4 _) trodAll_mk0)) (fun sp hsp => trodAll_stays (by kernel_rfl) hg (by kernel_rfl) hA0 (fun x hx => hW'.lt x (List.mem_append_left _ hx)) (fun x hx => hsp x (List.mem_append_left _ hx))) (fun _ _ => rfl) rfl
    hg (ok_one (by kernel_rfl) rfl (okWide_bool_mk Try.underlying4 _))⟩

theorem over : Rows.testTurnsRow.holds Try.pinned (OpenSpec.ofChange Rows.testTurnsSpec) :=
  OpenClaim.holds_of_wide 6 Try.f6 rfl rfl rfl rfl rfl rfl rfl ⟨rfl, rfl, rfl, rfl, rfl⟩ rfl rfl rfl rfl rfl (by kernel_rfl) Try.func6 (by kernel_rfl)
    (of_decide_eq_true (by kernel_rfl)) (by unfold Func.isWrapper; first | (rw [if_pos (by decide +kernel)]; kernel_rfl) | (rw [if_neg (by decide +kernel)]; exact ⟨rfl, rfl⟩))
    (fun os started H enc _ => lifted os started H enc)

/-- The statement. -/
theorem proved : Rows.TestTurnsSaid :=
  over
#print axioms proved
end Go.Proofs.Ytdnmhnjblgkjaaa.testTurns
