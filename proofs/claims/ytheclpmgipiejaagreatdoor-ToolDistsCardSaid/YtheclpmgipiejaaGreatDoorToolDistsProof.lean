/-
  The statement 'Rows.ToolDistsCardSaid' is proved: of every input the law 'vernier/vernierlaw23.ToolDists' gives true and leaves its arguments as they were; the card ties the library's listed variables to the program's text. No condition.
-/
import Derived.Test.YtheclpmgipiejaaGreatDoorCards
import Derived.Test.YtheclpmgipiejaaGreatDoorTie
import Derived.Lay
import Derived.SevenTiedAt
import Derived.Shelf.Vars
import Derived.WalkKit
import Derived.Test.YtheclpmgipiejaaGreatDoorPart10
import Derived.ProofKit
import Derived.OpenShut
namespace Go.Proofs.YtheclpmgipiejaaGreatDoor.toolDists
open Go.ChangeShapes Go.WideShapes Go.ChangeAt Go.RowKit
set_option linter.unusedSimpArgs false
set_option linter.unusedVariables false
set_option maxRecDepth 100000

theorem own : ownKnob Tryz.prog.godebug = none := by kernel_rfl

theorem walk (w : World) (m : Int) (hm : w.cell? ⟨2, 0, none⟩ = some (.int .i64 m)) (s0 : Go.Ev.SV) (sh0 : Go.Ev.ShpT Tryz.prog 7 22 [s0]) (v0 : Value) (rp0 : Go.Ev.Rep w (fun _ => False) v0 s0) :
    Calls Tryz.prog 3 #[v0] w fun e w' => e = .returned (.bool true) ∧ Below w.heap.size w w' := by
  obtain ⟨n, e, hn⟩ := tool_dists s0 sh0
  have hgl : Go.Ev.GlOk [(2, Value.int .i64 m)] w (fun _ => False) := by
    intro g v hg
    simp only [List.mem_singleton, Prod.mk.injEq] at hg
    obtain ⟨rfl, rfl⟩ := hg
    refine .mem _ _ (fun _ => .int .i64 m) (fun h => h) (fun i s hi => ?_) (fun i s hi => ?_)
    · cases i with
      | zero => rw [Go.Ev.add_zero]; exact hm
      | succ i => cases hi
    · cases i with
      | zero => cases hi; exact .con _ rfl
      | succ i => cases hi
  refine (Go.Ev.callN_calls (G := [(2, Value.int .i64 m)]) (XT_ok ⟨m, List.mem_singleton.2 rfl⟩) good_ok hn (Go.Ev.enters_of (fn := Tryz.f3) (c := (Tryz.f3).body.get!) (by kernel_rfl) (by kernel_rfl) (by kernel_rfl)) hgl (vals := #[v0]) rfl ?_).mono ?_
  · intro i x hx
    match i with
    | 0 => simp only [List.getElem?_cons_zero, List.getElem?_cons_succ, Option.some.injEq] at hx; subst hx; exact rp0
    | _ + 1 => simp at hx
  · rintro e' w' ⟨v, rfl, hr, hb⟩
    cases hr
    exact ⟨rfl, hb⟩


theorem core (H : Type) (enc : TypeId × Value → H) (W : World) (base : Nat) (args : Array Value) (ds gs : List (DataW H)) (before : List MemPlace) (hval0 : ∀ (j : Nat) t v, Tryz.f3.params[j]? = some t → args[j]? = some v → Value.okWide Tryz.prog W .any base t v)
    (hW : DataW.Whole enc Tryz.prog Tryz.f3.params.toList Rows.toolDistsSpec.vars false W args.toList ds gs before) (hsh : W.ShapedOpen Tryz.prog) :
    Calls Tryz.prog 3 args W fun e W' => ∃ v, e = .returned v ∧ Rows.toolDistsSpec.post enc Tryz.prog Tryz.f3 false true false false W args v W' := by
  obtain ⟨m, hm⟩ := cell_of_shapedOpen_int (P := Tryz.prog) (g := 2) (t := 3) (zero := #[.int .i64 0]) hsh (of_decide_eq_true (by kernel_rfl)) (by kernel_rfl) rfl (by kernel_rfl) (by kernel_rfl) Tryz.underlying3
  have hval : ∀ (j : Nat) t v, Tryz.f3.params[j]? = some t → args[j]? = some v → Value.okWide Tryz.prog W .any base t v := hval0
  have hW' := hW
  obtain ⟨p, q, hA0, hV, rfl, hfz, hnd⟩ := hW
  have hA : DataW.TrodAll enc Tryz.prog W 0 (fun _ => true) true Tryz.f3.params.toList args.toList ds p := hA0
  rw [Tryz.params3] at hA hval
  obtain ⟨v0, vs0, d0, ds0, p0, q0, hargs, rfl, rfl, h0, r0⟩ := trodAll_cons hA
  obtain ⟨rfl, rfl, rfl⟩ := trodAll_nil r0
  obtain rfl : args = #[v0] := by cases args; simp_all
  obtain ⟨rfl, rfl⟩ := trodVars_none hV
  obtain ⟨s0, rp0, sh0⟩ := open_slice (m := 7) (by kernel_rfl) Tryz.underlying22 (hval 0 22 v0 rfl rfl) h0
  clear hval0
  refine (walk W m hm s0 sh0 v0 rp0).mono fun e W' ⟨he, hg⟩ => ?_
  subst he
  refine ⟨_, rfl, post_of_below (pv := []) hW' (fun _ _ _ => (trodAll_cons_mk (shut_bool Tryz.underlying4 _) trodAll_mk0)) (fun sp hsp => trodAll_stays (by kernel_rfl) hg (by kernel_rfl) hA0 (fun x hx => hW'.lt x (List.mem_append_left _ hx)) (fun x hx => hsp x (List.mem_append_left _ hx))) (fun _ _ => rfl) rfl
    hg (ok_one (by kernel_rfl) rfl (okWide_bool_mk Tryz.underlying4 _))⟩

theorem lifted (os : Os) (started : os.Started) (H : Type) (enc : TypeId × Value → H) :
    ReturnsInHanded {} Tryz.checked os 3 .any (fun w args => (Rows.toolDistsSpec.pre enc Tryz.prog Tryz.f3 [] false w args ∧ laidMetH Tryz.prog Rows.toolDistsRow.laid w) ∧ sizedMet enc Tryz.prog Tryz.f3 (OpenSpec.ofChange Rows.toolDistsSpec) false w args)
      (Rows.toolDistsSpec.post enc Tryz.prog Tryz.f3 false true false false) := by
  refine returnsInHanded_of_calls own started (by kernel_rfl)
    (ChangeSpec.witness_shaped (fn := Tryz.f3) (s := Rows.toolDistsSpec) (conds := []) (apart := false) (enc := enc) (C := Tryz.checked) (os := os) (X := fun w _ => laidMetH Tryz.prog Rows.toolDistsRow.laid w) false (World.laidAll Tryz.prog os Rows.toolDistsRow.laid) #[.slice none 0 0] 8 (World.laidAll_os _ _ _)
      (World.shaped_of_ZipB (by kernel_rfl) (by kernel_rfl)) (by kernel_rfl) (by kernel_rfl) (by kernel_rfl)
      (by rw [MakeChecks.laidMetH_plain _ _ _ (by kernel_rfl)]; exact laidMet_laidAll _ (by kernel_rfl) (by kernel_rfl))) ?_
  intro w tape i _ hsh _ hok hpre _
  obtain ⟨_, _, _, fn', hfn', _, _, _, _, hval⟩ := hok
  obtain rfl : fn' = Tryz.f3 := Option.some.inj (hfn'.symm.trans Tryz.func3)
  obtain ⟨⟨⟨ds, gs, before, hw, _⟩, _⟩, _⟩ := hpre
  refine (core H enc (w.forCall tape i) w.heap.size i.args ds gs before hval (DataW.Whole.of_heap (w' := w.forCall tape i) (by rfl) hw) hsh).mono fun e W' ⟨v, he, hp⟩ => ?_
  subst he
  exact ChangeSpec.post_blind hp

theorem cl1 : (Rows.toolDistsRow.inPlace == Tryz.prog.inPlace 3) = true := by kernel_rfl
theorem cl2 : (Rows.toolDistsRow.unfollowed == Tryz.prog.unfollowed 3) = true := by kernel_rfl
theorem cl3 : (Rows.toolDistsRow.recurses == Tryz.prog.recurses 3) = true := by kernel_rfl
theorem cl4 : (Rows.toolDistsRow.named == Tryz.prog.varsNamed 3) = true := by kernel_rfl
theorem cl5 : laidOutB Tryz.prog = true := by kernel_rfl
theorem cl6 : mapsRowed Tryz.prog = true := by kernel_rfl
theorem cl7 : (Rows.toolDistsRow.plainKeys == Tryz.prog.plainKeys) = true := by kernel_rfl
theorem cl8 : Tryz.prog.stopsHeard = true := by kernel_rfl
theorem cl9 : Tryz.prog.mayEnter = true := by kernel_rfl
theorem closed : joinedFacts Tryz.prog 3 Tryz.f3 Rows.toolDistsSpec Rows.toolDistsRow = true := by
  unfold joinedFacts
  rw [cl1, cl2, cl3, cl4, cl5, cl6, cl7, cl8, cl9]
  kernel_rfl
theorem over : Rows.toolDistsRow.holds Tryz.pinned (OpenSpec.ofChange Rows.toolDistsSpec) :=
  OpenClaim.holds_of_wide 3 Tryz.f3 rfl rfl rfl rfl rfl rfl rfl ⟨rfl, rfl, rfl, rfl, rfl⟩ rfl rfl rfl rfl rfl (by kernel_rfl) Tryz.func3 closed
    (of_decide_eq_true (by kernel_rfl)) (by unfold Func.isWrapper; first | (rw [if_pos (by decide +kernel)]; kernel_rfl) | (rw [if_neg (by decide +kernel)]; exact ⟨rfl, rfl⟩))
    (fun os started H enc _ => lifted os started H enc)

/-- No parameter wants a stand-in; the program's looks are as the card says. -/
theorem plain (f : FuncId) (fn : Func) (hf : Tryz.pinned.checked.prog.funcNamed "vernier/vernierlaw23.ToolDists" = some f) (hfn : Tryz.pinned.checked.prog.funcs[f]? = some fn) :
    Rows.toolDistsCard.stood.looks = Tryz.pinned.checked.prog.looks [] ∧ ∀ (j : Nat) t, fn.params[j]? = some t → Tryz.pinned.checked.prog.wantsStandIn t = false := by
  obtain rfl : f = 3 := Option.some.inj ((show Tryz.prog.funcNamed "vernier/vernierlaw23.ToolDists" = some 3 by kernel_rfl).symm.trans hf) |>.symm
  obtain rfl : fn = Tryz.f3 := (Option.some.inj (Tryz.func3.symm.trans hfn)).symm
  refine ⟨by kernel_rfl, fun j t ht => ?_⟩
  rw [Tryz.params3] at ht
  have hm : t ∈ [22] := by simpa using Array.mem_of_getElem? ht
  have hall : ([22].all fun u => !Tryz.prog.wantsStandIn u) = true := by kernel_rfl
  exact (show Tryz.prog.wantsStandIn t = false by simpa using List.all_eq_true.1 hall t hm)
/-- The statement. -/
theorem proved : Rows.ToolDistsCardSaid :=
  Claim7.holds_tied_plain_at .later [] _ _ _ _ over (fun _ h => by cases h) (by kernel_rfl) (fun _ h => by cases h) toolDists_row_tie rfl ⟨rfl, rfl⟩ (by kernel_rfl) rfl plain (by kernel_rfl)
#print axioms proved
end Go.Proofs.YtheclpmgipiejaaGreatDoor.toolDists
