/-
  The statement 'Rows.ToolBlankCardSaid' is proved: of every input the law 'vernier/vernierlaw23.ToolBlank' gives true and leaves its arguments as they were; the card ties the library's listed variables to the program's text. No condition.
-/
import Derived.Test.YtcfjiolldehegaaGreatDoorCards
import Derived.Test.YtcfjiolldehegaaGreatDoorTie
import Derived.Lay
import Derived.SevenTiedAt
import Derived.Shelf.Vars
import Derived.ChangeMaps5
import Derived.WalkKit
import Derived.Test.YtcfjiolldehegaaGreatDoorPart9
import Derived.ProofKit
import Derived.OpenShut
namespace Go.Proofs.YtcfjiolldehegaaGreatDoor.toolBlank
open Go.ChangeShapes Go.WideShapes Go.ChangeAt Go.RowKit
set_option linter.unusedSimpArgs false
set_option linter.unusedVariables false
set_option maxRecDepth 100000

theorem own : ownKnob Tryz.prog.godebug = none := by kernel_rfl

theorem walk (w : World) (m : Int) (hm : w.cell? ⟨2, 0, none⟩ = some (.int .i64 m)) (a0 : ByteArray) (a1 : ByteArray) (z0 : a0.size ≤ 140737488351232) (z1 : a1.size ≤ 140737488351232) :
    Calls Tryz.prog 3 #[.string a0, .string a1] w fun e w' => e = .returned (.bool true) ∧ Below w.heap.size w w' := by
  obtain ⟨n, e, hn⟩ := tool_blank a0 a1 z0 z1
  have hgl : Go.Ev.GlOk [(2, Value.int .i64 m)] w (fun _ => False) := by
    intro g v hg
    simp only [List.mem_singleton, Prod.mk.injEq] at hg
    obtain ⟨rfl, rfl⟩ := hg
    refine .mem _ _ (fun _ => .int .i64 m) (fun h => h) (fun i s hi => ?_) (fun i s hi => ?_)
    · cases i with
      | zero => rw [Go.Ev.add_zero]; exact hm
      | succ i => cases hi
    · cases i with
      | zero => cases hi; exact .con _ rfl
      | succ i => cases hi
  refine (Go.Ev.callN_calls (G := [(2, Value.int .i64 m)]) (XT_ok ⟨m, List.mem_singleton.2 rfl⟩) good_ok hn (Go.Ev.enters_of (fn := Tryz.f3) (c := (Tryz.f3).body.get!) (by kernel_rfl) (by kernel_rfl) (by kernel_rfl)) hgl (vals := #[.string a0, .string a1]) rfl ?_).mono ?_
  · intro i x hx
    match i with
    | 0 => simp only [List.getElem?_cons_zero, List.getElem?_cons_succ, Option.some.injEq] at hx; subst hx; exact .str _
    | 1 => simp only [List.getElem?_cons_zero, List.getElem?_cons_succ, Option.some.injEq] at hx; subst hx; exact .str _
    | _ + 2 => simp at hx
  · rintro e' w' ⟨v, rfl, hr, hb⟩
    cases hr
    exact ⟨rfl, hb⟩


theorem core (H : Type) (enc : TypeId × Value → H) (W : World) (base : Nat) (args : Array Value) (ds gs : List (DataW H)) (before : List MemPlace) (hval0 : ∀ (j : Nat) t v, Tryz.f3.params[j]? = some t → args[j]? = some v → Value.okWide Tryz.prog W .any base t v)
    (hW : DataW.Whole enc Tryz.prog Tryz.f3.params.toList Rows.toolBlankSpec.vars false W args.toList ds gs before) (hsh : W.ShapedOpen Tryz.prog) (hk : (DataW.weightsEach Tryz.prog (Tryz.f3.params.toList ++ Rows.toolBlankSpec.plain.varTypes Tryz.prog) (ds ++ gs)).all (· ≤ reachBytes) = true) :
    Calls Tryz.prog 3 args W fun e W' => ∃ v, e = .returned v ∧ Rows.toolBlankSpec.post enc Tryz.prog Tryz.f3 false true false false W args v W' := by
  obtain ⟨m, hm⟩ := cell_of_shapedOpen_int (P := Tryz.prog) (g := 2) (t := 3) (zero := #[.int .i64 0]) hsh (of_decide_eq_true (by kernel_rfl)) (by kernel_rfl) rfl (by kernel_rfl) (by kernel_rfl) Tryz.underlying3
  have hval : ∀ (j : Nat) t v, Tryz.f3.params[j]? = some t → args[j]? = some v → Value.okWide Tryz.prog W .any base t v := hval0
  have hW' := hW
  obtain ⟨p, q, hA0, hV, rfl, hfz, hnd⟩ := hW
  have hA : DataW.TrodAll enc Tryz.prog W 0 (fun _ => true) true Tryz.f3.params.toList args.toList ds p := hA0
  rw [Tryz.params3] at hA hval
  obtain ⟨v0, vs0, d0, ds0, p0, q0, hargs, rfl, rfl, h0, r0⟩ := trodAll_cons hA
  obtain ⟨v1, vs1, d1, ds1, p1, q1, rfl, rfl, rfl, h1, r1⟩ := trodAll_cons r0
  obtain ⟨rfl, rfl, rfl⟩ := trodAll_nil r1
  obtain rfl : args = #[v0, v1] := by cases args; simp_all
  obtain ⟨rfl, rfl⟩ := trodVars_none hV
  obtain ⟨a0, rfl, rfl, rfl, -⟩ := Go.ChangeMaps.open_string Tryz.underlying9 (hval 0 9 v0 rfl rfl) h0
  obtain ⟨a1, rfl, rfl, rfl, -⟩ := Go.ChangeMaps.open_string Tryz.underlying9 (hval 1 9 v1 rfl rfl) h1
  clear hval0
  have hk' : ([a0.data.toList.length, a1.data.toList.length].all (· ≤ reachBytes)) = true := hk
  simp only [List.all_cons, List.all_nil, Bool.and_true, Bool.and_eq_true, decide_eq_true_eq] at hk'
  obtain ⟨z0, z1⟩ := hk'
  refine (walk W m hm a0 a1 z0 z1).mono fun e W' ⟨he, hg⟩ => ?_
  subst he
  refine ⟨_, rfl, post_of_below (pv := []) hW' (fun _ _ _ => (trodAll_cons_mk (shut_bool Tryz.underlying4 _) trodAll_mk0)) (fun sp hsp => trodAll_stays (by kernel_rfl) hg (by kernel_rfl) hA0 (fun x hx => hW'.lt x (List.mem_append_left _ hx)) (fun x hx => hsp x (List.mem_append_left _ hx))) (fun _ _ => rfl) rfl
    hg (ok_one (by kernel_rfl) rfl (okWide_bool_mk Tryz.underlying4 _))⟩

theorem lifted (os : Os) (started : os.Started) (H : Type) (enc : TypeId × Value → H) :
    ReturnsInHanded {} Tryz.checked os 3 .any (fun w args => (Rows.toolBlankSpec.pre enc Tryz.prog Tryz.f3 [] false w args ∧ laidMetH Tryz.prog Rows.toolBlankRow.laid w) ∧ sizedMet enc Tryz.prog Tryz.f3 (OpenSpec.ofChange Rows.toolBlankSpec) false w args)
      (Rows.toolBlankSpec.post enc Tryz.prog Tryz.f3 false true false false) := by
  refine returnsInHanded_of_calls own started (by kernel_rfl)
    (ChangeSpec.witness_shaped (fn := Tryz.f3) (s := Rows.toolBlankSpec) (conds := []) (apart := false) (enc := enc) (C := Tryz.checked) (os := os) (X := fun w _ => laidMetH Tryz.prog Rows.toolBlankRow.laid w) false (World.laidAll Tryz.prog os Rows.toolBlankRow.laid) #[.string ⟨#[]⟩, .string ⟨#[]⟩] 8 (World.laidAll_os _ _ _)
      (World.shaped_of_ZipB (by kernel_rfl) (by kernel_rfl)) (by kernel_rfl) (by kernel_rfl) (by kernel_rfl)
      (by rw [MakeChecks.laidMetH_plain _ _ _ (by kernel_rfl)]; exact laidMet_laidAll _ (by kernel_rfl) (by kernel_rfl))) ?_
  intro w tape i _ hsh _ hok hpre _
  obtain ⟨_, _, _, fn', hfn', _, _, _, _, hval⟩ := hok
  obtain rfl : fn' = Tryz.f3 := Option.some.inj (hfn'.symm.trans Tryz.func3)
  obtain ⟨_, _, ds, gs, before, hw, hk⟩ := hpre
  refine (core H enc (w.forCall tape i) w.heap.size i.args ds gs before hval (DataW.Whole.of_heap (w' := w.forCall tape i) (by rfl) hw) hsh hk).mono fun e W' ⟨v, he, hp⟩ => ?_
  subst he
  exact ChangeSpec.post_blind hp

theorem cl1 : (Rows.toolBlankRow.inPlace == Tryz.prog.inPlace 3) = true := by kernel_rfl
theorem cl2 : (Rows.toolBlankRow.unfollowed == Tryz.prog.unfollowed 3) = true := by kernel_rfl
theorem cl3 : (Rows.toolBlankRow.recurses == Tryz.prog.recurses 3) = true := by kernel_rfl
theorem cl4 : (Rows.toolBlankRow.named == Tryz.prog.varsNamed 3) = true := by kernel_rfl
theorem cl5 : laidOutB Tryz.prog = true := by kernel_rfl
theorem cl6 : mapsRowed Tryz.prog = true := by kernel_rfl
theorem cl7 : (Rows.toolBlankRow.plainKeys == Tryz.prog.plainKeys) = true := by kernel_rfl
theorem cl8 : Tryz.prog.stopsHeard = true := by kernel_rfl
theorem cl9 : Tryz.prog.mayEnter = true := by kernel_rfl
theorem closed : joinedFacts Tryz.prog 3 Tryz.f3 Rows.toolBlankSpec Rows.toolBlankRow = true := by
  unfold joinedFacts
  rw [cl1, cl2, cl3, cl4, cl5, cl6, cl7, cl8, cl9]
  kernel_rfl
theorem over : Rows.toolBlankRow.holds Tryz.pinned (OpenSpec.ofChange Rows.toolBlankSpec) :=
  OpenClaim.holds_of_wide 3 Tryz.f3 rfl rfl rfl rfl rfl rfl rfl ⟨rfl, rfl, rfl, rfl, rfl⟩ rfl rfl rfl rfl rfl (by kernel_rfl) Tryz.func3 closed
    (of_decide_eq_true (by kernel_rfl)) (by unfold Func.isWrapper; first | (rw [if_pos (by decide +kernel)]; kernel_rfl) | (rw [if_neg (by decide +kernel)]; exact ⟨rfl, rfl⟩))
    (fun os started H enc _ => lifted os started H enc)

/-- No parameter wants a stand-in; the program's looks are as the card says. -/
theorem plain (f : FuncId) (fn : Func) (hf : Tryz.pinned.checked.prog.funcNamed "vernier/vernierlaw23.ToolBlank" = some f) (hfn : Tryz.pinned.checked.prog.funcs[f]? = some fn) :
    Rows.toolBlankCard.stood.looks = Tryz.pinned.checked.prog.looks [] ∧ ∀ (j : Nat) t, fn.params[j]? = some t → Tryz.pinned.checked.prog.wantsStandIn t = false := by
  obtain rfl : f = 3 := Option.some.inj ((show Tryz.prog.funcNamed "vernier/vernierlaw23.ToolBlank" = some 3 by kernel_rfl).symm.trans hf) |>.symm
  obtain rfl : fn = Tryz.f3 := (Option.some.inj (Tryz.func3.symm.trans hfn)).symm
  refine ⟨by kernel_rfl, fun j t ht => ?_⟩
  rw [Tryz.params3] at ht
  have hm : t ∈ [9, 9] := by simpa using Array.mem_of_getElem? ht
  have hall : ([9, 9].all fun u => !Tryz.prog.wantsStandIn u) = true := by kernel_rfl
  exact (show Tryz.prog.wantsStandIn t = false by simpa using List.all_eq_true.1 hall t hm)
/-- The statement. -/
theorem proved : Rows.ToolBlankCardSaid :=
  Claim7.holds_tied_plain_at .later [] _ _ _ _ over (fun _ h => by cases h) (by kernel_rfl) (fun _ h => by cases h) toolBlank_row_tie rfl ⟨rfl, rfl⟩ (by kernel_rfl) rfl plain (by kernel_rfl)
#print axioms proved
end Go.Proofs.YtcfjiolldehegaaGreatDoor.toolBlank
