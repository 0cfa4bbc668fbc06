/- Part 6 of the proof: the evaluator, contracts of functions and their plain laws (joined by program). No condition. -/
import Derived.Test.YticocojomlfhgaaGreatDoorPart5
import Derived.Lib.SliceRun
import Derived.Test.YticocojomlfhgaaGreatDoorProg
import Derived.Lib.Bytealg
import Derived.Lib.Join
import Derived.Lib.SlTrimSet
import Derived.Lib.Atoi
import Derived.Laws.Externs
import Derived.Lib.Overlaps
import Derived.Shelf.Strings.OnBuilder
import Derived.Shelf.Strings.SlTrimAscii
import Derived.Shelf.Strconv.Atoi
set_option linter.unusedVariables false
set_option linter.unusedSimpArgs false
set_option maxRecDepth 100000
set_option linter.constructorNameAsVariable false
namespace Go.Proofs.YticocojomlfhgaaGreatDoor
open Go.Ev Go.RowKit Go.WideShapes
theorem u_limbs : Tryz.prog.underlying 26 = some (.slice 31) := by kernel_rfl
theorem u_limb : Tryz.prog.underlying 31 = some (.int .u32) := by kernel_rfl
theorem u_bool : Tryz.prog.underlying 4 = some .bool := by kernel_rfl
theorem u_int : Tryz.prog.underlying 3 = some (.int .i64) := by kernel_rfl
theorem wf_u32 {i : Int} (h : (Lit.int .u32 i).wf = true) : 0 <= i /\ i < 4294967296 := by
  have h' : decide (IntKind.u32.min <= i /\ i <= IntKind.u32.max) = true := by simpa [Lit.wf] using h
  have := of_decide_eq_true h'
  simp only [show IntKind.u32.min = 0 from rfl, show IntKind.u32.max = 4294967295 from rfl] at this
  omega
theorem shp_int {n : Nat} {ss : List SV} (h : ShpT Tryz.prog (n + 1) 3 ss) : ∃ i, ss = [.int .i64 i] /\ (Lit.int .i64 i).wf = true := by
  unfold ShpT at h
  rw [u_int] at h
  exact h
theorem shp_bool {n : Nat} {ss : List SV} (h : ShpT Tryz.prog (n + 1) 4 ss) : ∃ b, ss = [.bool b] := by
  unfold ShpT at h
  rw [u_bool] at h
  exact h
theorem shp_limbs_all {n : Nat} : ∀ l : List (List SV), (∀ x ∈ l, ShpT Tryz.prog (n + 1) 31 x) -> ∃ xs : List Nat, l.flatten = xs.map limb /\ l.length = xs.length /\ okL xs := by
  intro l
  induction l with
  | nil => intro _; exact ⟨[], rfl, rfl, okL_nil⟩
  | cons x l ih =>
    intro hx
    obtain ⟨xs, h1, h2, h3⟩ := ih fun y hy => hx y (List.mem_cons_of_mem _ hy)
    have h4 := hx x List.mem_cons_self
    unfold ShpT at h4
    rw [u_limb] at h4
    obtain ⟨i, rfl, hw⟩ := h4
    obtain ⟨w1, w2⟩ := wf_u32 hw
    obtain ⟨y, rfl⟩ : ∃ y : Nat, i = (y : Int) := ⟨i.toNat, by omega⟩
    exact ⟨y :: xs, by rw [List.flatten_cons, h1]; rfl, by simp [h2], okL_cons.2 ⟨by omega, h3⟩⟩
theorem shp_limbs {n : Nat} {ss : List SV} (h : ShpT Tryz.prog (n + 2) 26 ss) : ∃ xs, ss = [natV xs] /\ okL xs /\ xs.length <= maxLen := by
  unfold ShpT at h
  rw [u_limbs] at h
  obtain ⟨elems, rfl, hl, he⟩ := h
  obtain ⟨xs, h1, h2, h3⟩ := shp_limbs_all elems he
  exact ⟨xs, by rw [h1, h2], h3, h2 ▸ hl⟩
def fieldTs (P : Program) (t : TypeId) : List TypeId := match P.underlying t with
  | some (.struct fs) => fs.toList.map (·.type)
  | _ => []
theorem shp_struct {P : Program} {n : Nat} {t : TypeId} {ts : List TypeId} {ss : List SV} (ht : fieldTs P t = ts) (hne : ts ≠ []) (h : ShpT P (n + 1) t ss) :
    ∃ parts : List (List SV), ss = parts.flatten /\ parts.length = ts.length /\ ∀ (j : Nat) (u : TypeId) (x : List SV), ts[j]? = some u -> parts[j]? = some x -> ShpT P n u x := by
  unfold fieldTs at ht
  unfold ShpT at h
  split at ht
  · rename_i fs hu
    rw [hu] at h
    obtain ⟨parts, h1, h2, h3⟩ := h
    subst ht
    refine ⟨parts, h1, by rw [h2, List.length_map], fun j u x hj hx => ?_⟩
    rw [List.getElem?_map] at hj
    cases hf : fs.toList[j]? with
    | none => rw [hf] at hj; cases hj
    | some f =>
      rw [hf] at hj
      cases hj
      exact h3 j f x hf hx
  · exact (hne ht.symm).elim
theorem len_three {α : Type} {l : List α} (h : l.length = 3) : ∃ a b c, l = [a, b, c] := by
  match l, h with
  | [a, b, c], _ => exact ⟨a, b, c, rfl⟩
theorem len_five {α : Type} {l : List α} (h : l.length = 5) : ∃ a b c d e, l = [a, b, c, d, e] := by
  match l, h with
  | [a, b, c, d, e], _ => exact ⟨a, b, c, d, e, rfl⟩
theorem ts_rat : fieldTs Tryz.prog 28 = [4, 26, 26] := by kernel_rfl
theorem shp_rat {n : Nat} {ss : List SV} (h : ShpT Tryz.prog (n + 3) 28 ss) : ∃ s xs ys, ss = [.bool s, natV xs, natV ys] /\ okL xs /\ okL ys /\ xs.length <= maxLen /\ ys.length <= maxLen := by
  obtain ⟨parts, rfl, hl, hp⟩ := shp_struct ts_rat (by simp) h
  obtain ⟨a, b, c, rfl⟩ := len_three hl
  obtain ⟨s, rfl⟩ := shp_bool (hp 0 _ a rfl rfl)
  obtain ⟨xs, rfl, h1, h2⟩ := shp_limbs (hp 1 _ b rfl rfl)
  obtain ⟨ys, rfl, h3, h4⟩ := shp_limbs (hp 2 _ c rfl rfl)
  exact ⟨s, xs, ys, rfl, h1, h3, h2, h4⟩
theorem trodAll_stays {H : Type} {enc : TypeId × Value -> H} {P : Program} (hl : laidOutB P = true) {W W' : World} (hb : Below W.heap.size W W') {sp : Nat -> Bool} :
    ∀ {ts : List TypeId} {vs : List Value} {ds : List (DataW H)} {ps : List MemPlace}, (ts.all fun t => P.readableRec t && decide (t < P.types.size)) = true -> DataW.TrodAll enc P W 0 (fun _ => true) true ts vs ds ps ->
      (∀ x ∈ ps, x.block < W.heap.size) -> (∀ x ∈ ps, sp x.block = true) -> DataW.TrodAll enc P W' 0 sp true ts vs ds ps := by
  intro ts
  induction ts with
  | nil =>
    intro vs ds ps _ h _ _
    cases vs <;> cases ds <;> simp_all [DataW.TrodAll]
  | cons t ts ih =>
    intro vs ds ps ht h hlt hs
    cases vs with
    | nil => simp [DataW.TrodAll] at h
    | cons v vs =>
      cases ds with
      | nil => simp [DataW.TrodAll] at h
      | cons d ds =>
        obtain ⟨p, q, h1, h2, rfl⟩ := h
        rw [List.all_cons, Bool.and_eq_true, Bool.and_eq_true] at ht
        obtain ⟨⟨ht1, ht2⟩, ht3⟩ := ht
        refine ⟨p, q, WideElems.Trod_stays hl ht1 (of_decide_eq_true ht2) h1 (fun x hx => hb.same (hlt x (List.mem_append_left _ hx))) (fun x hx => hs x (List.mem_append_left _ hx)), ?_, rfl⟩
        exact ih ht3 h2 (fun x hx => hlt x (List.mem_append_right _ hx)) (fun x hx => hs x (List.mem_append_right _ hx))
end Go.Proofs.YticocojomlfhgaaGreatDoor
namespace Go.Ev
open Go.RowKit
section
variable {P : Program} {w0 w : World} {F I : Nat -> Prop} {Z : Zy} {N : Nat} {st : St} {a : Act}
theorem nilcmp_region {call : Callf} (hcall : CallAll P call) {id d1 d2 x n : Nat} {cs : List SV} {t t' ty1 ty2 : TypeId} {p1 p2 : String} {af1 af2 : Array Edge} {e : Nat × Nat × Nat} (hto : To w0 F I Z N st a w) (hx : st.tmp x = .sv (.sl n cs))
    (hd1 : d1 < N) (hd2 : d2 < N) (he : elm P t = some e) {Q : Exit -> Act -> World -> Prop}
    (hQ : ∀ b a' w', (b = true -> cs = []) -> To w0 F I Z N ((st.put d1 (.sv (.sl n cs))).put d2 (.sv (.bool b))) a' w' -> Q .normal a' w') :
    (Code.region id #[⟨some d1, .move (.tmp x), ty1, p1, af1, none⟩, ⟨some d2, .binOp .eql t (.tmp d1) (.const (.slice none 0 0)) t', ty2, p2, af2, none⟩] false).wp P Q a w := by
  obtain ⟨β, hr⟩ := hto
  refine wp_region ?_
  show wpOps P _ Q [0, 1] a w
  rw [wpOps_cons]
  refine stepO_wpOp (mu := fun _ => false) (soft := false) (st' := st.put d1 (.sv (.sl n cs))) hr hcall rfl (fun d e => by cases e; exact hd1) ?_ (fun a' w' hto => ?_) Q
  · show some (st.put d1 (st.tmp x)) = _
    rw [hx]
  obtain ⟨β', hr'⟩ := hto
  rw [wpOps_cons]
  unfold wpOp
  simp only [List.getElem?_toArray, List.getElem?_cons_succ, List.getElem?_cons_zero]
  rw [if_pos (by rfl)]
  have hv := hr'.tmps d1
  rw [show (st.put d1 (.sv (.sl n cs))).tmp d1 = .sv (.sl n cs) from if_pos rfl] at hv
  obtain ⟨e1, e2, e3⟩ := e
  obtain ⟨hu, _⟩ := elm_parts he
  have hv' : Rep w' (Mut F β' (st.put d1 (.sv (.sl n cs)))) (a'.tmps.getD d1 undef) (.sl n cs) := hv
  obtain ⟨A, cap, hval, hcap⟩ := slice_len hv'
  refine .inl (Runs.wp (K := fun a' w' => wpOps P _ Q [] a' w') ⟨w', .inl ⟨.bool A.isNone, ?_, ?_⟩⟩)
  · have h1 : a'.eval (.tmp d1) = .slice A n cap := hval
    have h2 : a'.eval (.const (.slice none 0 0)) = .slice none 0 0 := rfl
    have hg : (eqGuard .eql t (.tmp d1) (.const (.slice none 0 0)) (.slice A n cap) (.slice none 0 0)).run P w' = .ok () w' := by
      unfold eqGuard; split <;> rfl
    simp only [execOp, h1, h2, Sem.run_bind, hg, Lib.run_eql_slice_nil w' t e1 A n cap 0 0 hu, Result.andThen_ok, Sem.run_pure]
  · show Q .normal _ _
    refine hQ A.isNone _ _ (fun hb => ?_) ⟨β', hr'.putO (dst := some d2) (t := .sv (.bool A.isNone)) (fun d e => by cases e; exact hd2) (.bool _) (fun d g e => by simp [TV.id] at e)⟩
    rw [hval] at hv'
    cases hv' with
    | sl0 => rfl
    | sl => simp at hb
end
def cloneX (f : FuncId) : Callf := fun g args => if g = f then match args with
  | [.sv (.sl n cs)] => if cs.length = n /\ oneAll cs = true /\ n <= 274877906944 then some (.sv (.sl n cs), [none]) else none
  | _ => none
  else none
theorem cloneX_ok {P : Program} {f : FuncId} {fn : Func} {t ty1 ty2 : TypeId} {p1 p2 : String} {af1 af2 : Array Edge} {i1 : Nat} {c0 cT c3 : Code} (hf : P.funcs[f]? = some fn) (hok : okFn P fn = true)
    (hb : fn.body = some (.seq c0 (.seq (.seq (.region i1 #[⟨some 3, .move (.tmp 0), ty1, p1, af1, none⟩, ⟨some 4, .binOp .eql t (.tmp 3) (.const (.slice none 0 0)) t, ty2, p2, af2, none⟩] false) (.cond (.tmp 4) cT .skip)) c3)))
    (hn : 4 < fn.ntmps) {e : Nat × Nat × Nat} (he : elm P t = some e)
    (h0 : ∀ n cs, ∃ k st, exec P (fun _ _ => none) (fun _ => false) k c0 (argSt [.sv (.sl n cs)]) = some (.normal, st) /\ st.tmp 0 = .sv (.sl n cs) /\
      (∃ k st', exec P (fun _ _ => none) (fun _ => false) k cT ((st.put 3 (.sv (.sl n cs))).put 4 (.sv (.bool true))) = some (.ret, st') /\ retOf P st' fn.results.toList = some (.sv (.sl 0 []))) /\
      (cs.length = n -> oneAll cs = true -> n <= 274877906944 -> ∃ call mu k st', CallAll P call /\ exec P call mu k c3 ((st.put 3 (.sv (.sl n cs))).put 4 (.sv (.bool false))) = some (.ret, st') /\ retOf P st' fn.results.toList = some (.sv (.sl n cs)))) :
    CallOk P (cloneX f) := by
  intro g args r exps h
  unfold cloneX at h
  split at h
  · rename_i hg
    subst hg
    split at h
    · rename_i n cs
      split at h
      · rename_i hc
        cases h
        simp only [okFn, Bool.and_eq_true, hb, decide_eq_true_eq] at hok
        obtain ⟨⟨⟨hm, hnm⟩, hN⟩, hcode⟩ := hok
        refine fun w F B vals hF hsz hrep hinj => .inl ⟨enters_of hf hnm hb, ?_⟩
        have hcall : CallAll P (fun _ _ => none) := call_none
        have hent := entry hN (show ([Arg.sv (.sl n cs)] : List Arg).length <= fn.ntmps by simp; omega) hF hsz hrep hinj
        refine calls_of_wp hf hb ?_
        simp only [okCode, Bool.and_eq_true] at hcode
        obtain ⟨hc0, ⟨_, hcT, _⟩, hc3⟩ := hcode
        obtain ⟨k, st, he0, hx, ⟨kT, sT, heT, hrT⟩, h3⟩ := h0 n cs
        obtain ⟨call3, mu3, k3, s3, hcall3, he3, hr3⟩ := h3 hc.1 hc.2.1 hc.2.2
        have fin : ∀ {st' : St}, retOf P st' fn.results.toList = some (.sv (.sl n cs)) -> ∀ a' w', To w F (impB [.sv (.sl n cs)] B) ⟨B, fun _ => undef⟩ fn.ntmps st' a' w' -> bodyPost P fn (fun e w' => ∃ v, e = .returned v /\ RetRep w w' F v (.sv (.sl n cs)) /\ Ext (impB [.sv (.sl n cs)] B) w w' /\ ∀ (i : Nat) (cs' : List SV), ([none] : List (Option (List SV)))[i]? = some (some cs') -> Holds w' F (B i) cs') .ret a' w' := by
          intro st' hret a' w' ⟨β, hr⟩
          obtain ⟨v, hv, hrr⟩ := hr.ret hret
          refine ⟨hr.defers, v, hv, v, rfl, hrr, hr.ext, fun i cs' hi => ?_⟩
          cases i <;> simp at hi
        refine wp_seq (exec_wp hcall hm k hc0 ⟨_, hent⟩ he0 fun a1 w1 hto1 => ?_)
        refine wp_seq (wp_seq (nilcmp_region hcall hto1 hx (by omega) (by omega) he fun b a2 w2 hb2 hto2 => ?_))
        cases b with
        | true =>
          have hcs := hb2 rfl
          subst hcs
          have hn0 : n = 0 := by simpa using hc.1.symm
          subst hn0
          obtain ⟨β, hr2⟩ := hto2
          have hv4 : Rep _ _ (a2.eval (.tmp 4)) (.bool true) := hr2.tmps 4
          refine wp_cond (rep_bool hv4) ?_
          exact exec_wp hcall hm kT hcT ⟨β, hr2⟩ heT fun a3 w3 hto3 => fin hrT a3 w3 hto3
        | false =>
          have hto2' := hto2
          obtain ⟨β, hr2⟩ := hto2
          have hv4 : Rep _ _ (a2.eval (.tmp 4)) (.bool false) := hr2.tmps 4
          refine wp_cond (rep_bool hv4) ?_
          refine wp_skip ?_
          exact exec_wp hcall3 hm k3 hc3 hto2' he3 fun a3 w3 hto3 => fin hr3 a3 w3 hto3
      · cases h
    · cases h
  · cases h
end Go.Ev
namespace Go.Proofs.YticocojomlfhgaaGreatDoor
open Go.Ev
def nGood : Nat := 181
def notGood : List Nat := [3, 7, 48, 81, 98, 141, 150, 152, 153]
noncomputable def good (f : FuncId) : Bool := Nat.ble 2 f && Nat.blt f (2 + nGood) && !(notGood.any fun g => Nat.beq g f)
def allOk (P : Program) (n : Nat) : Bool := (List.range n).all fun i => notGood.any (fun g => Nat.beq g (i + 2)) || match P.funcs[i + 2]? with
  | some fn => okFn P fn
  | none => true
theorem good_of {P : Program} {n : Nat} (h : allOk P n = true) {f : Nat} {fn : Func} (h2 : 2 <= f) (hn : f < 2 + n) (hb : (notGood.any fun g => Nat.beq g f) = false) (hf : P.funcs[f]? = some fn) : okFn P fn = true := by
  unfold allOk at h
  have hlt : f - 2 < n := by omega
  have := List.all_eq_true.1 h (f - 2) (List.mem_range.2 hlt)
  rw [show f - 2 + 2 = f by omega, hf, hb, Bool.false_or] at this
  exact this
theorem good_all : allOk Tryz.prog nGood = true := by kernel_rfl
theorem good_ok : Go.Ev.Good Tryz.prog good := by
  intro f fn hg hf
  unfold good at hg
  simp only [Bool.and_eq_true, Nat.ble_eq, Nat.blt_eq, Bool.not_eq_true'] at hg
  exact good_of good_all hg.1.1 hg.1.2 hg.2 hf
end Go.Proofs.YticocojomlfhgaaGreatDoor
namespace Go.Ev
section
variable {C : Cx} {ops : Array Oper} {l : List Oper} {st : St} {Q : St -> Prop} {d : Nat}
def FnR (C : Cx) (f : FuncId) (args : List SV) (cs : List SV) (size off n : Nat) : Prop := ∃ m e, callN C.P C.X C.mu C.good m f (args.map Arg.sv) = some (.row cs size off n, e)
theorem vf_row {g : FuncId} {ss cs : List SV} {size off n : Nat} (h : FnR C g ss cs size off n) (k : WO C false ops l (st.new d cs (.ref d (st.gen d) size off n)) Q) : WF C false ops l (some d) st Q g ss := by
  obtain ⟨m, e, hn⟩ := h
  exact ⟨m, by rw [hn]; exact k⟩
theorem vf_rowS {dst : Option Nat} {g : FuncId} {ss cs : List SV} {size off n : Nat} (h : FnR C g ss cs size off n) (k : WO C true ops l (st.putO dst (.sv (.sl n ((cs.drop off).take (n * size))))) Q) : WF C true ops l dst st Q g ss := by
  obtain ⟨m, e, hn⟩ := h
  exact ⟨m, by rw [hn]; exact k⟩
def RR (P : Program) (rs : List ResultVar) (r : Ret) (e : Ex) (st : St) : Prop := match e with
  | .exit _ => False
  | .goto _ => False
  | _ => retRow P st rs = some r
theorem expOf_sv (st : St) (ars : List SV) : expOf st (ars.map Arg.sv) = List.replicate ars.length none := by
  unfold expOf
  rw [List.length_map]
  refine List.ext_getElem? fun i => ?_
  rw [List.getElem?_map, List.getElem?_replicate]
  rcases Nat.lt_or_ge i ars.length with h | h
  · rw [List.getElem?_range h, if_pos h, Option.map_some, List.getElem?_map, List.getElem?_eq_getElem h]
    rfl
  · rw [List.getElem?_eq_none (by simpa using h), if_neg (by omega)]
    rfl
theorem row_intro {f : FuncId} {fn : Func} {body : Code} {args : List SV} {r : Ret} (hf : C.P.funcs[f]? = some fn) (hok : C.good f = true) (hb : fn.body = some body) (hl : args.length <= fn.ntmps)
    (h : WP C body (argSt (args.map Arg.sv)) (RR C.P fn.results.toList r)) : ∃ n, rowN C.P C.X C.mu C.good n f (args.map Arg.sv) = some (r, List.replicate args.length none) := by
  obtain ⟨n, e, st, he, hq⟩ := h
  refine ⟨n, ?_⟩
  unfold rowN
  simp only [hf, hok, hb, if_true]
  rw [if_pos (by simpa using hl), he, <- expOf_sv st args]
  cases e with
  | exit i => exact hq.elim
  | goto i => exact hq.elim
  | normal => show Option.map _ (retRow C.P st fn.results.toList) = _; rw [show retRow C.P st fn.results.toList = some r from hq]; rfl
  | ret => show Option.map _ (retRow C.P st fn.results.toList) = _; rw [show retRow C.P st fn.results.toList = some r from hq]; rfl
theorem FnI_of {f : FuncId} {fn : Func} {body : Code} {args : List Arg} {T : SV -> List (Option (List SV)) -> Prop} (hf : C.P.funcs[f]? = some fn) (hok : C.good f = true) (hb : fn.body = some body) (hX : ∀ ars, C.X f ars = none) (hl : args.length <= fn.ntmps)
    (h : WP C body (argSt args) (fun e s => ∃ r exps, T r exps /\ RQ C.P fn.results.toList r e s /\ expOf s args = exps)) (hst : stq args = none := by rfl) : ∃ r exps, T r exps /\ FnI C f args r exps := by
  obtain ⟨n, e, st, he, r, exps, hT, hq, hexp⟩ := h
  refine ⟨r, exps, hT, n + 1, ?_⟩
  unfold callN
  rw [hst, hX]
  simp only [hf, hok, hb, if_true]
  rw [if_pos hl, he, <- hexp]
  cases e with
  | exit i => exact hq.elim
  | goto i => exact hq.elim
  | normal => show Option.map _ (retOf C.P st fn.results.toList) = _; rw [show retOf C.P st fn.results.toList = some (.sv r) from hq]; rfl
  | ret => show Option.map _ (retOf C.P st fn.results.toList) = _; rw [show retOf C.P st fn.results.toList = some (.sv r) from hq]; rfl
theorem rr_one {P : Program} {t : Nat} {r : Ret} : RR P [.tmp t] r .ret st = ((match st.tmp t with
    | .ref d g size off n => if d < 1000000 then (st.obj d g).map fun cs => Ret.row cs size off n else none
    | _ => none) = some r) := by
  show (retRow P st [.tmp t] = some r) = _
  unfold retRow resTV
  dsimp only
  generalize st.tmp t = v
  cases v <;> rfl
end
attribute [go_sem] rr_one
end Go.Ev
namespace Go.Ev
theorem tab_row_ok {P : Program} {X : Callf} {mu good : FuncId -> Bool} (hX : TabOk P X) (hg : Good P good) (X1 : Callf)
    (h : ∀ g args r exps, X1 g args = some (r, exps) -> X g args = some (r, exps) \/ (∃ n, rowN P X mu good n g args = some (r, exps)) \/ ∃ k st vs, args = [.st k st vs]) : CallOk P X1 := by
  intro g args r exps h1
  rcases h g args r exps h1 with h2 | ⟨n, h2⟩ | ⟨k, st, vs, rfl⟩
  · exact hX.ok g args r exps h2
  · exact rowN_ok hX hg h2
  · intro w F B vals _ _ hrep _
    exact (hrep 0 _ rfl).elim
end Go.Ev
namespace Go.Ev
def bs (l : List UInt8) : ByteArray := ⟨l.toArray⟩
theorem bs_data (s : ByteArray) : bs s.data.toList = s := rfl
theorem bs_toList (l : List UInt8) : (bs l).data.toList = l := by simp [bs]
theorem bs_size (l : List UInt8) : (bs l).size = l.length := by simp [bs, ByteArray.size]
theorem bs_get (l : List UInt8) (i : Nat) : (bs l)[i]? = l[i]? := by
  rw [getElem?_def]
  split
  · rename_i h
    have h' : i < l.length := by rw [<- bs_size]; exact h
    rw [List.getElem?_eq_getElem h']
    rfl
  · rename_i h
    have h' : ¬ i < l.length := by rw [<- bs_size]; exact h
    rw [List.getElem?_eq_none (by omega)]
theorem bs_append (a b : List UInt8) : bs a ++ bs b = bs (a ++ b) := by
  apply ByteArray.ext
  simp [bs]
theorem bs_extract (l : List UInt8) (a b : Nat) : (bs l).extract a b = bs ((l.drop a).take (b - a)) := by
  apply ByteArray.ext
  simp [bs]
theorem bs_list (l : List UInt8) : (bs l).toList = l := by
  rw [ByteArray.toList_eq]
  exact bs_toList l
theorem bs_eq {a b : List UInt8} : ((bs a).toList == (bs b).toList) = (a == b) := by rw [bs_list, bs_list]
def dig (b : UInt8) : Bool := 48 <= b.toNat && b.toNat <= 57
def digs (l : List UInt8) : Bool := l.all dig
def natD (l : List UInt8) : Nat := l.foldl (fun a b => a * 10 + (b.toNat - 48)) 0
def natLE : List UInt8 -> Nat
  | [] => 0
  | b :: r => (b.toNat - 48) + 10 * natLE r
theorem natD_nil : natD [] = 0 := rfl
theorem natD_snoc (l : List UInt8) (b : UInt8) : natD (l ++ [b]) = natD l * 10 + (b.toNat - 48) := by simp [natD]
theorem natD_rev (l : List UInt8) : natD l.reverse = natLE l := by
  induction l with
  | nil => rfl
  | cons b r ih =>
    rw [List.reverse_cons, natD_snoc, ih, natLE]
    omega
theorem natLE_lt {l : List UInt8} (h : digs l = true) : natLE l < 10 ^ l.length := by
  induction l with
  | nil => simp [natLE]
  | cons b r ih =>
    unfold digs at h
    rw [List.all_cons, Bool.and_eq_true] at h
    have hb := h.1
    unfold dig at hb
    simp only [Bool.and_eq_true, decide_eq_true_eq] at hb
    have := ih h.2
    rw [natLE, List.length_cons, Nat.pow_succ]
    omega
end Go.Ev
namespace Go.Ev
open Go.RowKit
def CallAt (P : Program) (g : FuncId) (args : List Arg) (r : Ret) (exps : List (Option (List SV))) : Prop :=
  ∀ (w : World) (F : Nat -> Prop) (B : Nat -> Nat) (vals : Array Value), (∀ b, F b -> b < w.heap.size) -> vals.size = args.length ->
    (∀ (i : Nat) (x : Arg), args[i]? = some x -> ArgRep w F (vals.getD i undef) (B i) x) ->
    (∀ (i j : Nat) (x y : Arg), args[i]? = some x -> args[j]? = some y -> isImp x = true -> isImp y = true -> B i = B j -> i = j) ->
    Invk P g vals w fun e w' => ∃ v, e = .returned v /\ RetRep w w' F v r /\ Ext (impB args B) w w' /\ ∀ (i : Nat) (cs : List SV), exps[i]? = some (some cs) -> Holds w' F (B i) cs
theorem sv_imp {ss : List SV} {B : Nat -> Nat} {b : Nat} : ¬ impB (ss.map Arg.sv) B b := by
  rintro ⟨i, x, hx, hi, _⟩
  rw [List.getElem?_map] at hx
  cases hs : ss[i]? with
  | none => rw [hs] at hx; cases hx
  | some s => rw [hs] at hx; cases hx; cases hi
theorem ext_below {w w' : World} {J : Nat -> Prop} (h : Below w.heap.size w w') (hJ : ∀ b, ¬ J b) : Ext J w w' :=
  ⟨h.os, h.tape, h.output, h.size, fun b hb _ => h.block b hb, fun b cs ty hb hi _ => (hJ b hi).elim⟩
theorem at_extern {P : Program} {g : FuncId} {ss : List SV} {s : SV} {exps : List (Option (List SV))} (he : ∀ i : Nat, exps[i]? ≠ some (some []) /\ ∀ cs, exps[i]? ≠ some (some cs))
    (h : ∀ (w : World) (F : Nat -> Prop) (vals : Array Value), vals.size = ss.length -> (∀ (i : Nat) (x : SV), ss[i]? = some x -> Rep w F (vals.getD i undef) x) -> ∃ v, (callFunc g vals).run P w = .ok (.value v) w /\ Rep w F v s) :
    CallAt P g (ss.map Arg.sv) (.sv s) exps := by
  intro w F B vals hF hsz hrep hinj
  obtain ⟨v, hv, hr⟩ := h w F vals (by simpa using hsz) (fun i x hx => by
    have := hrep i (.sv x) (by rw [List.getElem?_map, hx]; rfl)
    exact this)
  exact .inr ⟨v, hv, v, rfl, hr, ext_below (Below.refl _ _) (fun b => sv_imp), fun i cs hi => ((he i).2 cs hi).elim⟩
theorem at_calls {P : Program} {g : FuncId} {ss : List SV} {s : SV} {exps : List (Option (List SV))} (hE : Enters P g) (he : ∀ i : Nat, exps[i]? ≠ some (some []) /\ ∀ cs, exps[i]? ≠ some (some cs))
    (h : ∀ (w : World) (F : Nat -> Prop) (vals : Array Value), vals.size = ss.length -> (∀ (i : Nat) (x : SV), ss[i]? = some x -> Rep w F (vals.getD i undef) x) -> Calls P g vals w fun e w' => ∃ v, e = .returned v /\ Rep w' F v s /\ Below w.heap.size w w') :
    CallAt P g (ss.map Arg.sv) (.sv s) exps := by
  intro w F B vals hF hsz hrep hinj
  refine .inl ⟨hE, (h w F vals (by simpa using hsz) (fun i x hx => hrep i (.sv x) (by rw [List.getElem?_map, hx]; rfl))).mono ?_⟩
  rintro e w' ⟨v, rfl, hr, hb⟩
  exact ⟨v, rfl, hr, ext_below hb (fun b => sv_imp), fun i cs hi => ((he i).2 cs hi).elim⟩
theorem none_exps {n : Nat} (i : Nat) : (List.replicate n (none : Option (List SV)))[i]? ≠ some (some []) /\ ∀ cs, (List.replicate n (none : Option (List SV)))[i]? ≠ some (some cs) := by
  constructor
  · intro h
    rw [List.getElem?_replicate] at h
    split at h <;> simp at h
  · intro cs h
    rw [List.getElem?_replicate] at h
    split at h <;> simp at h
def xIndex : List Arg -> Option (Ret × List (Option (List SV)))
  | [.sv (.str s), .sv (.int .u8 c)] => some (.sv (.int .i64 (Lib.indexByte s.data.toList c.toNat.toUInt8)), List.replicate 2 none)
  | _ => none
def xCount : List Arg -> Option (Ret × List (Option (List SV)))
  | [.sv (.str s), .sv (.int .u8 c)] => some (.sv (.int .i64 (Lib.countByte s.data.toList c.toNat.toUInt8)), List.replicate 2 none)
  | _ => none
def xCmp : List Arg -> Option (Ret × List (Option (List SV)))
  | [.sv (.str a), .sv (.str b)] => some (.sv (.int .i64 (Lib.compareBytes a.data.toList b.data.toList)), List.replicate 2 none)
  | _ => none
def xTrim : List Arg -> Option (Ret × List (Option (List SV)))
  | [.sv (.str s), .sv (.str c)] => if s.size <= 9223372036854775807 /\ c.size < 4294967281 /\ c.data.toList.all (fun b => decide (b.toNat < 128)) = true then some (.sv (.str (bs (Lib.trimS s.data.toList c.data.toList))), List.replicate 2 none) else none
  | _ => none
def xTrimLeft : List Arg -> Option (Ret × List (Option (List SV)))
  | [.sv (.str s), .sv (.str c)] => if c.size < 4294967281 /\ c.data.toList.all (fun b => decide (b.toNat < 128)) = true then some (.sv (.str (bs (Lib.trimLeftS s.data.toList c.data.toList))), List.replicate 2 none) else none
  | _ => none
def xAtoi : List Arg -> Option (Ret × List (Option (List SV)))
  | [.sv (.str s)] => match Lib.atoi s.data.toList with
    | some v => if s.size <= 18 then some (.sv (.tup [.int .i64 v, .con .nilIface]), List.replicate 1 none) else none
    | none => none
  | _ => none
def strsOf : List SV -> Option (List (List UInt8))
  | [] => some []
  | .str s :: r => match strsOf r with
    | some l => some (s.data.toList :: l)
    | none => none
  | _ => none
def xJoin : List Arg -> Option (Ret × List (Option (List SV)))
  | [.sv (.sl n cs), .sv (.str sep)] => match strsOf cs with
    | some xs => if xs.length = n /\ n <= 140737488355328 /\ (Lib.join xs sep.data.toList).length <= 140737488355328 then some (.sv (.str (bs (Lib.join xs sep.data.toList))), List.replicate 2 none) else none
    | none => none
  | _ => none
def splitB (c : UInt8) : List UInt8 -> List (List UInt8)
  | [] => [[]]
  | b :: r => if b == c then [] :: splitB c r else match splitB c r with
    | x :: xs => (b :: x) :: xs
    | [] => [[b]]
def strC (l : List UInt8) : SV := .str (bs l)
def xGenSplit : List Arg -> Option (Ret × List (Option (List SV)))
  | [.sv (.str s), .sv (.str sep), .sv (.int .i64 0), .sv (.int .i64 (-1))] => match sep.data.toList with
    | [c] => if s.size <= 1048576 then some (.row ((splitB c s.data.toList).map strC) 1 0 (splitB c s.data.toList).length, List.replicate 4 none) else none
    | _ => none
  | _ => none
def xSplit : List Arg -> Option (Ret × List (Option (List SV)))
  | [.sv (.str s), .sv (.str sep)] => match sep.data.toList with
    | [c] => if s.size <= 1048576 then some (.row ((splitB c s.data.toList).map strC) 1 0 (splitB c s.data.toList).length, List.replicate 2 none) else none
    | _ => none
  | _ => none
section
variable {P : Program} {g : FuncId} {fn : Func} {args : List Arg} {r : Ret} {exps : List (Option (List SV))}
theorem rep_str2 {w : World} {F : Nat -> Prop} {vals : Array Value} {s : ByteArray} {x : SV} (hsz : vals.size = 2) (h : ∀ (i : Nat) (y : SV), [SV.str s, x][i]? = some y -> Rep w F (vals.getD i undef) y) : ∃ v, vals = #[.string s, v] /\ Rep w F v x := by
  have h0 := h 0 _ rfl
  have h1 := h 1 _ rfl
  obtain ⟨l⟩ := vals
  match l, hsz, h0, h1 with
  | [a, b], _, h0, h1 =>
    have h0 : Rep w F a (.str s) := h0
    have h1 : Rep w F b x := h1
    rw [rep_str h0]
    exact ⟨b, rfl, h1⟩
theorem index_at (hf : P.funcs[g]? = some fn) (hname : (fn.name == "runtime.NumGoroutine") = false) (hb : fn.body.isNone = true) (hn : Extern.findNext fn = none) (he : Extern.find fn = some Extern.BytealgIndexByte.indexByte)
    (h : xIndex args = some (r, exps)) : CallAt P g args r exps := by
  unfold xIndex at h
  split at h
  · rename_i s c
    cases h
    refine at_extern (ss := [.str s, .int .u8 c]) none_exps fun w F vals hsz hrep => ?_
    obtain ⟨v, rfl, hv⟩ := rep_str2 hsz hrep
    rw [rep_int hv]
    refine ⟨_, ?_, .int _ _⟩
    rw [run_callFunc_extern hf hname hb hn he, Lib.run_indexByteString]
    rfl
  · cases h
theorem cmp_at (hf : P.funcs[g]? = some fn) (hname : (fn.name == "runtime.NumGoroutine") = false) (hb : fn.body.isNone = true) (hn : Extern.findNext fn = none) (he : Extern.find fn = some Extern.BytealgCompare.compare)
    (h : xCmp args = some (r, exps)) : CallAt P g args r exps := by
  unfold xCmp at h
  split at h
  · rename_i s c
    cases h
    refine at_extern (ss := [.str s, .str c]) none_exps fun w F vals hsz hrep => ?_
    obtain ⟨v, rfl, hv⟩ := rep_str2 hsz hrep
    rw [rep_str hv]
    refine ⟨_, ?_, .int _ _⟩
    rw [run_callFunc_extern hf hname hb hn he, Lib.run_compareString]
    rfl
  · cases h
theorem count_at (hf : P.funcs[g]? = some fn) (hname : (fn.name == "runtime.NumGoroutine") = false) (hb : fn.body.isNone = true) (hn : Extern.findNext fn = none) (he : Extern.find fn = some Extern.BytealgCount.count)
    (h : xCount args = some (r, exps)) : CallAt P g args r exps := by
  unfold xCount at h
  split at h
  · rename_i s c
    cases h
    refine at_extern (ss := [.str s, .int .u8 c]) none_exps fun w F vals hsz hrep => ?_
    obtain ⟨v, rfl, hv⟩ := rep_str2 hsz hrep
    rw [rep_int hv]
    refine ⟨_, ?_, .int _ _⟩
    rw [run_callFunc_extern hf hname hb hn he, Lib.run_countString]
    rfl
  · cases h
theorem trim_at (hE : Enters P g) (hC : ∀ (s c : ByteArray) (w : World), s.size <= 9223372036854775807 -> c.size < 4294967281 -> (∀ (j : Nat) b, c.data.toList[j]? = some b -> b.toNat < 128) ->
      Calls P g #[.string s, .string c] w fun e w' => e = .returned (.string ⟨(Lib.trimS s.data.toList c.data.toList).toArray⟩) /\ Below w.heap.size w w')
    (h : xTrim args = some (r, exps)) : CallAt P g args r exps := by
  unfold xTrim at h
  split at h
  · rename_i s c
    split at h
    · rename_i hc
      cases h
      refine at_calls (ss := [.str s, .str c]) hE none_exps fun w F vals hsz hrep => ?_
      obtain ⟨v, rfl, hv⟩ := rep_str2 hsz hrep
      rw [rep_str hv]
      refine (hC s c w hc.1 hc.2.1 (fun j b hb => of_decide_eq_true (List.all_eq_true.1 hc.2.2 b (List.mem_of_getElem? hb)))).mono ?_
      rintro e w' ⟨rfl, hb⟩
      exact ⟨_, rfl, .str _, hb⟩
    · cases h
  · cases h
theorem trimLeft_at (hE : Enters P g) (hC : ∀ (s c : ByteArray) (w : World), c.size < 4294967281 -> (∀ (j : Nat) b, c.data.toList[j]? = some b -> b.toNat < 128) ->
      Calls P g #[.string s, .string c] w fun e w' => e = .returned (.string ⟨(Lib.trimLeftS s.data.toList c.data.toList).toArray⟩) /\ Below w.heap.size w w')
    (h : xTrimLeft args = some (r, exps)) : CallAt P g args r exps := by
  unfold xTrimLeft at h
  split at h
  · rename_i s c
    split at h
    · rename_i hc
      cases h
      refine at_calls (ss := [.str s, .str c]) hE none_exps fun w F vals hsz hrep => ?_
      obtain ⟨v, rfl, hv⟩ := rep_str2 hsz hrep
      rw [rep_str hv]
      refine (hC s c w hc.1 (fun j b hb => of_decide_eq_true (List.all_eq_true.1 hc.2 b (List.mem_of_getElem? hb)))).mono ?_
      rintro e w' ⟨rfl, hb⟩
      exact ⟨_, rfl, .str _, hb⟩
    · cases h
  · cases h
theorem atoi_at (hE : Enters P g) (hC : ∀ (s : ByteArray) (v : Int) (w : World), s.size <= 18 -> Lib.atoi s.data.toList = some v ->
      Calls P g #[.string s] w fun e w' => e = .returned (.tuple #[.int .i64 v, .nilIface]) /\ Below w.heap.size w w')
    (h : xAtoi args = some (r, exps)) : CallAt P g args r exps := by
  unfold xAtoi at h
  split at h
  · rename_i s
    split at h
    · rename_i v hv
      split at h
      · rename_i hc
        cases h
        refine at_calls (ss := [.str s]) hE none_exps fun w F vals hsz hrep => ?_
        have h0 := hrep 0 _ rfl
        obtain ⟨l⟩ := vals
        match l, hsz, h0 with
        | [a], _, h0 =>
          have h0 : Rep w F a (.str s) := h0
          rw [rep_str h0]
          refine (hC s v w hc hv).mono ?_
          rintro e w' ⟨rfl, hb⟩
          refine ⟨_, rfl, .tup _ _ rfl (fun i x hx => ?_), hb⟩
          match i with
          | 0 => cases hx; exact .int _ _
          | 1 => cases hx; exact .con _ rfl
          | i + 2 => simp at hx
      · cases h
    · cases h
  · cases h
theorem strsOf_get : ∀ {cs : List SV} {xs : List (List UInt8)}, strsOf cs = some xs -> cs = xs.map (fun l => .str (bs l))
  | [], xs, h => by cases h; rfl
  | c :: r, xs, h => by
    unfold strsOf at h
    split at h
    · rename_i heq; cases heq
    · rename_i s r' heq
      injection heq with e1 e2
      subst e1 e2
      split at h
      · rename_i l hl
        cases h
        rw [List.map_cons, <- strsOf_get hl]
        rfl
      · cases h
    · cases h
theorem join_at (hE : Enters P g)
    (h0 : ∀ (a : Option Addr) (c : Nat) (sep : ByteArray) (w : World), Calls P g #[.slice a 0 c, .string sep] w fun e w' => e = .returned (.string ⟨#[]⟩) /\ w' = w)
    (hC : ∀ (bk o c : Nat) (xs : List ByteArray) (sep : ByteArray) (w : World), (∀ (j : Nat) x, xs[j]? = some x -> w.cell? ⟨bk, o + j, none⟩ = some (.string x)) -> bk < w.heap.size -> xs.length <= 140737488355328 -> xs.length <= c ->
      (Lib.join (xs.map (·.data.toList)) sep.data.toList).length <= 140737488355328 ->
      Calls P g #[.slice (some ⟨bk, o, none⟩) xs.length c, .string sep] w fun e w' => e = .returned (.string ⟨(Lib.join (xs.map (·.data.toList)) sep.data.toList).toArray⟩) /\ Below w.heap.size w w')
    (h : xJoin args = some (r, exps)) : CallAt P g args r exps := by
  unfold xJoin at h
  split at h
  · rename_i n cs sep
    split at h
    · rename_i xs hxs
      split at h
      · rename_i hc
        cases h
        obtain ⟨hn, hm, hl⟩ := hc
        refine at_calls (ss := [.sl n cs, .str sep]) hE none_exps fun w F vals hsz hrep => ?_
        have r0 := hrep 0 _ rfl
        have r1 := hrep 1 _ rfl
        obtain ⟨l⟩ := vals
        match l, hsz, r0, r1 with
        | [a, b], _, r0, r1 =>
          have r0 : Rep w F a (.sl n cs) := r0
          have r1 : Rep w F b (.str sep) := r1
          rw [rep_str r1]
          have hcs := strsOf_get hxs
          have none_case : ∀ (A : Option Addr) (cap : Nat), xs = [] -> Calls P g #[.slice A 0 cap, .string sep] w fun e w' => ∃ v, e = .returned v /\ Rep w' F v (.str (bs (Lib.join xs sep.data.toList))) /\ Below w.heap.size w w' := by
            intro A cap hx
            subst hx
            refine (h0 A cap sep w).mono ?_
            rintro e w' ⟨rfl, rfl⟩
            exact ⟨_, rfl, .str _, Below.refl _ _⟩
          cases r0 with
          | sl0 A _ cap _ =>
            have hx : xs = [] := by
              cases xs with
              | nil => rfl
              | cons x xs => simp at hcs
            subst hx
            cases hn
            exact none_case A cap rfl
          | sl p _ cap hle _ c hb hcell hr =>
            cases xs with
            | nil => cases hn; exact none_case _ cap rfl
            | cons x xs =>
              have hcell' : ∀ (j : Nat) (y : ByteArray), ((x :: xs).map bs)[j]? = some y -> w.cell? (p.add j) = some (.string y) := by
                intro j y hy
                have hj : cs[j]? = some (.str y) := by
                  rw [hcs]
                  rw [List.getElem?_map] at hy ⊢
                  cases hz : (x :: xs)[j]? with
                  | none => rw [hz] at hy; cases hy
                  | some z => rw [hz] at hy; cases hy; rfl
                rw [hcell j _ hj, rep_str (hr j _ hj)]
              have hp : p = ⟨p.block, p.off, none⟩ := by
                have := hcell' 0 _ rfl
                rw [show p.add 0 = p from rfl] at this
                obtain ⟨pb, po, ps⟩ := p
                cases ps with
                | none => rfl
                | some _ =>
                  simp [World.cell?] at this
                  split at this <;> simp at this
              have hlt : p.block < w.heap.size := World.block_lt_of_cell? w p (hcell' 0 _ rfl)
              have key := hC p.block p.off cap ((x :: xs).map bs) sep w (fun j y hy => by
                have := hcell' j y hy
                rw [hp, add_mk] at this
                exact this) hlt (by rw [List.length_map]; omega) (by rw [List.length_map]; omega) (by
                  rw [List.map_map]
                  have : (x :: xs).map ((fun y : ByteArray => y.data.toList) ∘ bs) = x :: xs := by
                    rw [show ((fun y : ByteArray => y.data.toList) ∘ bs) = id from funext fun y => bs_toList y]
                    simp
                  rw [this]
                  exact hl)
              rw [List.length_map, hn, <- hp, List.map_map] at key
              have e1 : (x :: xs).map ((fun y : ByteArray => y.data.toList) ∘ bs) = x :: xs := by
                rw [show ((fun y : ByteArray => y.data.toList) ∘ bs) = id from funext fun y => bs_toList y]
                simp
              rw [e1] at key
              refine key.mono ?_
              rintro e w' ⟨rfl, hb⟩
              exact ⟨_, rfl, .str _, hb⟩
      · cases h
    · cases h
  · cases h
end
end Go.Ev
namespace Go.Ev
open Go.RowKit
def insSt (st : St) (d g : Nat) (cs : List SV) : St :=
  { tmp := fun t => (st.tmp t).kill d g
    obj := fun d' g' => if d' = d /\ g' = g then some cs else st.obj d' g'
    gen := fun d' => st.gen d' + 1
    hob := fun d' g' => (st.hob d' g').map fun ts => ts.map fun t => t.kill d g
    up := fun t => (st.up t).kill d g }
def xIns : List Arg -> Option (Ret × List (Option (List SV)))
  | [.st false st [.ref d g 2 0 n, .sv (.int .i64 i), .ref d2 g2 2 0 1]] => match st.obj d g, st.obj d2 g2 with
    | some cs, some [.str b, .sl m l] => if d < N0 /\ ¬ (d2 = d /\ g2 = g) /\ cs.length = n * 2 /\ oneAll cs = true /\ 0 <= i /\ i.toNat <= n /\ n <= 100000 then
        some (.st (insSt st d g (cs.take (i.toNat * 2) ++ [.str b, .sl m l] ++ cs.drop (i.toNat * 2))) (.ref d g 2 0 (n + 1)), []) else none
    | _, _ => none
  | _ => none
def xDel : List Arg -> Option (Ret × List (Option (List SV)))
  | [.st false st [.ref d g 2 0 n, .sv (.int .i64 i), .sv (.int .i64 j)]] => match st.obj d g with
    | some cs => if d < N0 /\ cs.length = n * 2 /\ oneAll cs = true /\ 0 <= i /\ j = i + 1 /\ i.toNat < n /\ n <= 100000 then
        some (.st (insSt st d g (cs.take (i.toNat * 2) ++ cs.drop (i.toNat * 2 + 2))) (.ref d g 2 0 (n - 1)), []) else none
    | none => none
  | _ => none
def xOver : List Arg -> Option (Ret × List (Option (List SV)))
  | [.st false st [.ref d g 2 0 1, .rfc d' g' 2 off n c]] => if (st.obj d g).isSome = true /\ (st.obj d' g').isSome = true /\ ¬ (d = d' /\ g = g') /\ 0 < c then some (.st st (.sv (.bool false)), []) else none
  | _ => none
theorem insSt_upd {s : St} {l : Loc} {d g : Nat} {cs : List SV} {v : TV} : insSt (s.upd l v) d g cs = (insSt s d g cs).upd l (v.kill d g) := by
  cases l with
  | tmp t =>
    refine St.ext' (fun x => ?_) (fun _ _ => rfl) (fun _ => rfl) rfl rfl
    show TV.kill d g (if x = t then v else s.tmp x) = if x = t then v.kill d g else (s.tmp x).kill d g
    split <;> rfl
  | up t =>
    refine St.ext' (fun _ => rfl) (fun _ _ => rfl) (fun _ => rfl) rfl (funext fun x => ?_)
    show TV.kill d g (if x = t then v else s.up x) = if x = t then v.kill d g else (s.up x).kill d g
    split <;> rfl
theorem ins_eqv {b : Bool} {s : St} {vs : List TV} {r : Ret} {e : List (Option (List SV))} (h : xIns [.st b s vs] = some (r, e)) (l : Loc) : ∃ m : TV -> TV, ∀ v, xIns [.st b (s.upd l v) vs] = some (r.upd l (m v), e) := by
  unfold xIns at h
  split at h
  · rename_i st d g n i d2 g2 hargs
    cases hargs
    split at h
    · rename_i cs bb m l0 h1 h2
      split at h
      · rename_i hc
        cases h
        refine ⟨fun v => v.kill d g, fun v => ?_⟩
        unfold xIns
        simp only [upd_obj, h1, h2]
        rw [if_pos hc, insSt_upd]
        rfl
      · cases h
    · cases h
  · cases h
theorem del_eqv {b : Bool} {s : St} {vs : List TV} {r : Ret} {e : List (Option (List SV))} (h : xDel [.st b s vs] = some (r, e)) (l : Loc) : ∃ m : TV -> TV, ∀ v, xDel [.st b (s.upd l v) vs] = some (r.upd l (m v), e) := by
  unfold xDel at h
  split at h
  · rename_i st d g n i j hargs
    cases hargs
    split at h
    · rename_i cs h1
      split at h
      · rename_i hc
        cases h
        refine ⟨fun v => v.kill d g, fun v => ?_⟩
        unfold xDel
        simp only [upd_obj, h1]
        rw [if_pos hc, insSt_upd]
        rfl
      · cases h
    · cases h
  · cases h
theorem over_eqv {b : Bool} {s : St} {vs : List TV} {r : Ret} {e : List (Option (List SV))} (h : xOver [.st b s vs] = some (r, e)) (l : Loc) : ∃ m : TV -> TV, ∀ v, xOver [.st b (s.upd l v) vs] = some (r.upd l (m v), e) := by
  unfold xOver at h
  split at h
  · rename_i st d g d' g' off n c hargs
    cases hargs
    split at h
    · rename_i hc
      cases h
      refine ⟨id, fun v => ?_⟩
      unfold xOver
      simp only [upd_obj]
      rw [if_pos hc]
      rfl
    · cases h
  · cases h
section
variable {P : Program} {w0 w : World} {F I : Nat -> Prop} {Z : Zy} {N : Nat} {β : Nat -> Nat -> Nat} {st : St} {a : Act}
theorem over_in {P : Program} {g : FuncId} {fn : Func} {tS tR e : TypeId} {size : Nat} (hf : P.funcs[g]? = some fn) (hname : (fn.name == "runtime.NumGoroutine") = false) (hb : fn.body.isNone = true) (hn : Extern.findNext fn = none) (he : Extern.find fn = some (Extern.SlicesOverlaps.overlaps #[tS, tS] #[tR]))
    (hel : elm P tS = some (e, 2, size)) {k : Bool} {st : St} {vs : List TV} {r : Ret} {exps : List (Option (List SV))} (h : xOver [.st k st vs] = some (r, exps))
    (w0 : World) (F I : Nat -> Prop) (Z : Zy) (N : Nat) (β : Nat -> Nat -> Nat) (a : Act) (w : World) (vals : Array Value) (hrel : Rel w0 F I Z N β st a w) (hsz : vals.size = vs.length)
    (hv : ∀ (i : Nat) (v : TV), vs[i]? = some v -> RepT β w (Mut F β st) (vals.getD i undef) v /\ ∀ d g, v.id = some (d, g) -> g < st.gen d) :
    Invk P g vals w fun e w' => ∃ v, e = .returned v /\ InRet w0 F I Z N st a w' k v r := by
  unfold xOver at h
  split at h
  · rename_i st1 d g1 d' g' off n c hargs
    cases hargs
    split at h
    · rename_i hc
      cases h
      obtain ⟨ho, ho', hne, hn0⟩ := hc
      obtain ⟨cap, cs, ty, h1, h2, h3, h4⟩ := (hv 0 _ rfl).1
      obtain ⟨cs', ty', h1', h2', h3', h4'⟩ := (hv 1 _ rfl).1
      have hvals : vals = #[vals.getD 0 undef, vals.getD 1 undef] := by
        have : vals.size = 2 := hsz
        apply Array.ext
        · simpa using this
        · intro i hi1 hi2
          have hi : i < 2 := by simpa using hi2
          match i, hi with
          | 0, _ => simp [Array.getD_eq_getD_getElem?, hi1]
          | 1, _ => simp [Array.getD_eq_getD_getElem?, hi1]
      have hbne : β d g1 ≠ β d' g' := fun e => hne (hrel.inj _ _ _ _ ho ho' e)
      obtain ⟨hu, i, hi, his, hib⟩ := elm_parts hel
      have hk : cs'.size ≠ 0 := by omega
      refine .inr ⟨.bool false, ?_, .bool false, rfl, rfl, β, hrel, .bool _, fun d g e => by simp [TV.id] at e⟩
      rw [run_callFunc_extern hf hname hb hn he, hvals, h1, h1']
      rw [Lib.run_overlaps_apart w tS tR e hu 2 (fun w => by rw [<- his]; exact run_size hi w) ⟨β d g1, 0, none⟩ ⟨β d' g', off, none⟩ 1 cap n c hbne ty ty' cs.size cs'.size (by simp only [World.shape?, h3]) (by simp only [World.shape?, h3']) hk
        (by simp only [World.frozen?, h3]; simp) (by simp only [World.frozen?, h3]; simp)]
      rfl
    · cases h
  · cases h
theorem Rel.genUp (h : Rel w0 F I Z N β st a w) {gen' : Nat -> Nat} (hg : ∀ d, st.gen d <= gen' d) : Rel w0 F I Z N β { st with gen := gen' } a w where
  defers := h.defers
  size := h.size
  tmps := h.tmps
  ids := fun t d g hx => Nat.lt_of_lt_of_le (h.ids t d g hx) (hg d)
  objs := h.objs
  own := h.own
  room := h.room
  inj := h.inj
  gens := fun d g ho => Nat.lt_of_lt_of_le (h.gens d g ho) (hg d)
  ext := h.ext
  old := h.old
  imps := h.imps
  pin := h.pin
  ups := h.ups
  uids := fun t d g hx => Nat.lt_of_lt_of_le (h.uids t d g hx) (hg d)
  hobs := fun d' g' ts hts => by
    obtain ⟨h1, h2, cs1, ty1, hb1, hall⟩ := h.hobs d' g' ts hts
    refine ⟨h1, h2, cs1, ty1, hb1, fun i x hx => ?_⟩
    obtain ⟨v, hv, ho, hr, hid⟩ := hall i x hx
    exact ⟨v, hv, ho, hr, fun d1 g1 e => Nat.lt_of_lt_of_le (hid d1 g1 e) (hg d1)⟩
theorem Rel.lessObj (h : Rel w0 F I Z N β st a w) {d g : Nat} {cs cs' : List SV} (hdN : d < N0) (ho : st.obj d g = some cs) (hp : ∀ (i : Nat) (s : SV), cs'[i]? = some s -> cs[i]? = some s) : Rel w0 F I Z N β (st.set d g cs') a w := by
  obtain ⟨us, ty, hb, hall⟩ := h.objs d g cs ho
  exact h.set ho hb hb rfl (fun b _ => rfl) rfl rfl rfl rfl (fun i s hs => hall i s (hp i s hs)) (.inl (h.no_hob (Nat.lt_trans hdN (by decide))))
theorem Rel.rename (h : Rel w0 F I Z N β st a w) {d g D G : Nat} {cs cs' : List SV} (hd : d < N0) (hD : D < N0) (hne : ¬ (d = D /\ g = G)) (ho : st.obj d g = some cs) (hO : st.obj D G = some cs')
    (hno : ∀ t d' g', (st.tmp t).id = some (d', g') -> ¬ (d' = d /\ g' = g) /\ ¬ (d' = D /\ g' = G)) (hnu : ∀ t d' g', (st.up t).id = some (d', g') -> ¬ (d' = d /\ g' = g) /\ ¬ (d' = D /\ g' = G))
    (hnh : ∀ (d1 g1 : Nat) (ts : List TV) (i : Nat) (x : TV) (d' g' : Nat), st.hob d1 g1 = some ts -> ts[i]? = some x -> x.id = some (d', g') -> ¬ (d' = d /\ g' = g) /\ ¬ (d' = D /\ g' = G)) :
    Rel w0 F I Z N (upd β d g (β D G)) { st with obj := fun d' g' => if d' = d /\ g' = g then some cs' else if d' = D /\ g' = G then none else st.obj d' g' } a w := by
  generalize hs : ({ st with obj := fun d' g' => if d' = d /\ g' = g then some cs' else if d' = D /\ g' = G then none else st.obj d' g' } : St) = s
  have etmp : s.tmp = st.tmp := by rw [<- hs]
  have eup : s.up = st.up := by rw [<- hs]
  have egen : s.gen = st.gen := by rw [<- hs]
  have ehob : s.hob = st.hob := by rw [<- hs]
  have eobj : ∀ d' g', s.obj d' g' = if d' = d /\ g' = g then some cs' else if d' = D /\ g' = G then none else st.obj d' g' := fun d' g' => by rw [<- hs]
  have hupd : ∀ d' g', ¬ (d' = d /\ g' = g) -> upd β d g (β D G) d' g' = β d' g' := fun d' g' he => if_neg he
  have hobj : ∀ d' g', (s.obj d' g').isSome = true -> (d' = d /\ g' = g) \/ ((st.obj d' g').isSome = true /\ ¬ (d' = d /\ g' = g) /\ ¬ (d' = D /\ g' = G)) := by
    intro d' g' h1
    rw [eobj] at h1
    by_cases he : d' = d /\ g' = g
    · exact .inl he
    · rw [if_neg he] at h1
      by_cases he2 : d' = D /\ g' = G
      · rw [if_pos he2] at h1; cases h1
      · rw [if_neg he2] at h1; exact .inr ⟨h1, he, he2⟩
  have hOs : (st.obj D G).isSome = true := by rw [hO]; rfl
  have hM : ∀ b, Mut F (upd β d g (β D G)) s b -> Mut F β st b := by
    rintro b (hf | ⟨d', g', h1, e⟩)
    · exact .inl hf
    · rcases hobj d' g' h1 with ⟨rfl, rfl⟩ | ⟨h1', he, _⟩
      · rw [upd_self] at e; exact .inr ⟨D, G, hOs, e⟩
      · rw [hupd _ _ he] at e; exact .inr ⟨d', g', h1', e⟩
  have hrep : ∀ {v : Value} {x : SV}, Rep w (Mut F β st) v x -> Rep w (Mut F (upd β d g (β D G)) s) v x := fun hr => Rep.mono (w := w) (fun _ _ _ => rfl) (fun b _ hm => hM b hm) hr
  have hT : ∀ {v : Value} {x : TV}, RepT β w (Mut F β st) v x -> (∀ d' g', x.id = some (d', g') -> ¬ (d' = d /\ g' = g) /\ ¬ (d' = D /\ g' = G)) -> RepT (upd β d g (β D G)) w (Mut F (upd β d g (β D G)) s) v x := by
    intro v x hold hids
    cases x with
    | sv s => exact hrep hold
    | nil => exact hold
    | undef => trivial
    | skip => exact hold
    | ptr d' g' off => show _ = _; rw [hupd d' g' (hids d' g' rfl).1]; exact hold
    | ref d' g' size off n =>
      obtain ⟨cap, cs', ty', h1, h2, h3, h4⟩ := hold
      rw [<- hupd d' g' (hids d' g' rfl).1] at h1 h3
      exact ⟨cap, cs', ty', h1, h2, h3, h4⟩
    | rfc d' g' size off n c =>
      obtain ⟨cs', ty', h1, h2, h3, h4⟩ := hold
      rw [<- hupd d' g' (hids d' g' rfl).1] at h1 h3
      exact ⟨cs', ty', h1, h2, h3, h4⟩
  exact {
    defers := h.defers
    size := h.size
    tmps := fun u => by rw [etmp]; exact hT (h.tmps u) (hno u)
    ids := fun u d' g' hx => by rw [egen]; rw [etmp] at hx; exact h.ids u d' g' hx
    objs := fun d' g' cells hc => by
      rw [eobj] at hc
      by_cases he : d' = d /\ g' = g
      · rw [if_pos he] at hc
        obtain ⟨rfl, rfl⟩ := he
        cases hc
        obtain ⟨us, ty, hb, hall⟩ := h.objs D G cs' hO
        refine ⟨us, ty, by rw [upd_self]; exact hb, fun i s hs => ?_⟩
        obtain ⟨h1, u, hu, hr⟩ := hall i s hs
        exact ⟨h1, u, hu, hrep hr⟩
      · rw [if_neg he] at hc
        by_cases he2 : d' = D /\ g' = G
        · rw [if_pos he2] at hc; cases hc
        · rw [if_neg he2] at hc
          obtain ⟨us, ty, hb, hall⟩ := h.objs d' g' cells hc
          refine ⟨us, ty, by rw [hupd _ _ he]; exact hb, fun i s hs => ?_⟩
          obtain ⟨h1, u, hu, hr⟩ := hall i s hs
          exact ⟨h1, u, hu, hrep hr⟩
    own := fun d' g' h1 => by
      rcases hobj d' g' h1 with ⟨rfl, rfl⟩ | ⟨h1', he, _⟩
      · rw [upd_self]
        exact ⟨fun _ => (h.own D G hOs).1 (.inl hD), fun hn _ => absurd hd (by omega)⟩
      · rw [hupd _ _ he]; exact h.own d' g' h1'
    room := h.room
    inj := fun d1 g1 d2 g2 h1 h2 e => by
      rcases hobj d1 g1 h1 with ⟨rfl, rfl⟩ | ⟨h1', he1, hq1⟩ <;> rcases hobj d2 g2 h2 with ⟨rfl, rfl⟩ | ⟨h2', he2, hq2⟩
      · exact ⟨rfl, rfl⟩
      · rw [upd_self, hupd _ _ he2] at e
        have := h.inj D G d2 g2 hOs h2' e
        exact (hq2 ⟨this.1.symm, this.2.symm⟩).elim
      · rw [upd_self, hupd _ _ he1] at e
        exact (hq1 (h.inj d1 g1 D G h1' hOs e)).elim
      · rw [hupd _ _ he1, hupd _ _ he2] at e
        exact h.inj d1 g1 d2 g2 h1' h2' e
    gens := fun d' g' h1 => by
      rw [egen]
      rcases hobj d' g' h1 with ⟨rfl, rfl⟩ | ⟨h1', _⟩
      · exact h.gens d' g' (by rw [ho]; rfl)
      · exact h.gens d' g' h1'
    ext := h.ext
    old := h.old
    imps := h.imps
    pin := fun d' g' hd' hd'' => (hupd d' g' (fun e => by omega)).trans (h.pin d' g' hd' hd'')
    ups := fun u => by rw [eup]; exact hT (h.ups u) (hnu u)
    uids := fun u d' g' hx => by rw [egen]; rw [eup] at hx; exact h.uids u d' g' hx
    hobs := fun d' g' ts hts => by
      rw [ehob] at hts
      obtain ⟨h1, h2, cs1, ty1, hb1, hall⟩ := h.hobs d' g' ts hts
      have hH : N0 < H0 := by decide
      have hne1 : ¬ (d' = d /\ g' = g) := fun e => by omega
      have hne2 : ¬ (d' = D /\ g' = G) := fun e => by omega
      refine ⟨h1, by rw [eobj, if_neg hne1, if_neg hne2]; exact h2, cs1, ty1, by rw [hupd _ _ hne1]; exact hb1, fun i x hx => ?_⟩
      obtain ⟨v, hv, ho, hr, hid⟩ := hall i x hx
      exact ⟨v, hv, ho, hT hr (fun a1 a2 e => hnh d' g' ts i x a1 a2 hts hx e), fun a1 a2 e => by rw [egen]; exact hid a1 a2 e⟩ }
structure InsLeaves (st : St) (d g n : Nat) (cs : List SV) (s : St) (t : TV) : Prop where
  tmp : ∀ u, s.tmp u = st.tmp u
  up : ∀ u, s.up u = st.up u
  hob : ∀ d' g', s.hob d' g' = st.hob d' g'
  here : (∃ cs1, (∀ d' g', s.obj d' g' = if d' = d /\ g' = g then some cs1 else st.obj d' g') /\ (∀ (i : Nat) (x : SV), cs[i]? = some x -> cs1[i]? = some x) /\ (∀ d', s.gen d' = st.gen d') /\ t = .ref d g 2 0 n) \/
    ∃ D, D < N0 /\ (∀ d' g', s.obj d' g' = if d' = D /\ g' = st.gen D then some cs else st.obj d' g') /\ (∀ d', s.gen d' = if d' = D then st.gen D + 1 else st.gen d') /\ t = .ref D (st.gen D) 2 0 n
theorem st_eq {s s' : St} (h1 : ∀ u, s.tmp u = s'.tmp u) (h2 : ∀ d g, s.obj d g = s'.obj d g) (h3 : ∀ d, s.gen d = s'.gen d) (h4 : ∀ d g, s.hob d g = s'.hob d g) (h5 : ∀ u, s.up u = s'.up u) : s = s' := by
  obtain ⟨a1, a2, a3, a4, a5⟩ := s
  obtain ⟨b1, b2, b3, b4, b5⟩ := s'
  have e1 : a1 = b1 := funext h1
  have e2 : a2 = b2 := funext fun d => funext fun g => h2 d g
  have e3 : a3 = b3 := funext h3
  have e4 : a4 = b4 := funext fun d => funext fun g => h4 d g
  have e5 : a5 = b5 := funext h5
  subst e1 e2 e3 e4 e5
  rfl
theorem InsLeaves.ups {s : St} {vs : List TV} (h : ∀ u, s.up u = (st.enter vs).up u) : (∀ u, s.leave.tmp u = st.tmp u) /\ ∀ u, s.leave.up u = st.up u := by
  constructor
  · intro u
    show s.up (2 * u) = _
    rw [h]
    show (if 2 * u % 2 = 0 then st.tmp (2 * u / 2) else st.up (2 * u / 2)) = _
    rw [if_pos (by omega), show 2 * u / 2 = u by omega]
  · intro u
    show s.up (2 * u + 1) = _
    rw [h]
    show (if (2 * u + 1) % 2 = 0 then st.tmp ((2 * u + 1) / 2) else st.up ((2 * u + 1) / 2)) = _
    rw [if_neg (by omega), show (2 * u + 1) / 2 = u by omega]
theorem leaves_here {s : St} {vs : List TV} {d g n : Nat} {cs : List SV} (cs1 : List SV) {rs : List ResultVar} (hr : retI P s rs = some (.ref d g 2 0 n)) (h1 : ∀ u, s.up u = (st.enter vs).up u) (h2 : ∀ d' g', s.hob d' g' = st.hob d' g')
    (h3 : ∀ d' g', s.obj d' g' = if d' = d /\ g' = g then some cs1 else st.obj d' g') (h4 : ∀ d', s.gen d' = st.gen d') (hp : ∀ (i : Nat) (x : SV), cs[i]? = some x -> cs1[i]? = some x) : RZ P rs (InsLeaves st d g n cs) .ret s :=
  rz_ret hr ⟨(InsLeaves.ups h1).1, (InsLeaves.ups h1).2, h2, .inl ⟨cs1, h3, hp, h4, rfl⟩⟩
theorem leaves_new {s : St} {vs : List TV} {d g n : Nat} {cs : List SV} (D : Nat) {rs : List ResultVar} (hr : retI P s rs = some (.ref D (st.gen D) 2 0 n)) (hD : D < N0) (h1 : ∀ u, s.up u = (st.enter vs).up u) (h2 : ∀ d' g', s.hob d' g' = st.hob d' g')
    (h3 : ∀ d' g', s.obj d' g' = if d' = D /\ g' = st.gen D then some cs else st.obj d' g') (h4 : ∀ d', s.gen d' = if d' = D then st.gen D + 1 else st.gen d') : RZ P rs (InsLeaves st d g n cs) .ret s :=
  rz_ret hr ⟨(InsLeaves.ups h1).1, (InsLeaves.ups h1).2, h2, .inr ⟨D, hD, h3, h4, rfl⟩⟩
theorem InsLeaves.to {s : St} {t : TV} {d g n : Nat} {cs cs0 : List SV} (h : InsLeaves st d g n cs s t) {w1 : World} {β1 : Nat -> Nat -> Nat} {v : Value} (h0 : Rel w0 F I Z N β st a w) (hd : d < N0) (ho : st.obj d g = some cs0)
    (hr : Rel w0 F I Z N β1 s a w1) (ht : RepT β1 w1 (Mut F β1 s) v t) : ∃ β', Rel w0 F I Z N β' (insSt st d g cs) a w1 /\ RepT β' w1 (Mut F β' (insSt st d g cs)) v (.ref d g 2 0 n) /\ ∀ d' g', (TV.ref d g 2 0 n).id = some (d', g') -> g' < (insSt st d g cs).gen d' := by
  have hgen : ∀ d' g', (TV.ref d g 2 0 n).id = some (d', g') -> g' < (insSt st d g cs).gen d' := by
    intro d' g' e
    simp only [TV.id, Option.some.injEq, Prod.mk.injEq] at e
    obtain ⟨rfl, rfl⟩ := e
    exact Nat.lt_succ_of_lt (h0.gens _ _ (by rw [ho]; rfl))
  obtain ⟨etmp, eup, ehob, here⟩ := h
  rcases here with ⟨cs1, eobj, hpre, egen, rfl⟩ | ⟨D, hD, eobj, egen, rfl⟩
  · have h1 := ((hr.kill d g).lessObj (cs := cs1) (cs' := cs) hd (by show s.obj d g = _; rw [eobj, if_pos ⟨rfl, rfl⟩]) hpre).genUp (gen' := fun d' => st.gen d' + 1) (fun d' => by show s.gen d' <= _; rw [egen]; exact Nat.le_succ _)
    have e : ({ (s.kill d g).set d g cs with gen := fun d' => st.gen d' + 1 } : St) = insSt st d g cs := by
      refine st_eq (fun u => ?_) (fun d' g' => ?_) (fun d' => rfl) (fun d' g' => ?_) (fun u => ?_)
      · show (s.tmp u).kill d g = (st.tmp u).kill d g
        rw [etmp]
      · show (if d' = d /\ g' = g then some cs else s.obj d' g') = (if d' = d /\ g' = g then some cs else st.obj d' g')
        by_cases he : d' = d /\ g' = g
        · rw [if_pos he, if_pos he]
        · rw [if_neg he, if_neg he, eobj, if_neg he]
      · show (s.hob d' g').map _ = (st.hob d' g').map _
        rw [ehob]
      · show (s.up u).kill d g = (st.up u).kill d g
        rw [eup]
    rw [e] at h1
    exact ⟨β1, h1, ht, hgen⟩
  · have hos : (st.obj d g).isSome = true := by rw [ho]; rfl
    have hne : ¬ (d = D /\ g = st.gen D) := fun e => by
      have := h0.gens d g hos
      obtain ⟨rfl, e2⟩ := e
      omega
    have hko : (s.kill d g).obj d g = some cs0 := by
      show s.obj d g = _
      rw [eobj, if_neg hne]; exact ho
    have hkO : (s.kill d g).obj D (st.gen D) = some cs := by
      show s.obj D (st.gen D) = _
      rw [eobj, if_pos ⟨rfl, rfl⟩]
    have hid : ∀ {x : TV} {d' g' : Nat}, (∀ d' g', x.id = some (d', g') -> g' < st.gen d') -> (x.kill d g).id = some (d', g') -> ¬ (d' = d /\ g' = g) /\ ¬ (d' = D /\ g' = st.gen D) := by
      intro x d' g' hx hk
      obtain ⟨h1, h2⟩ := kill_id hk
      refine ⟨h2, fun e => ?_⟩
      have := hx d' g' h1
      obtain ⟨rfl, rfl⟩ := e
      exact absurd this (Nat.lt_irrefl _)
    have h1 := ((hr.kill d g).rename hd hD hne hko hkO (fun t d' g' e => hid (fun d1 g1 e1 => h0.ids t d1 g1 e1) (by rw [<- etmp]; exact e)) (fun t d' g' e => hid (fun d1 g1 e1 => h0.uids t d1 g1 e1) (by rw [<- eup]; exact e))
      (fun d1 g1 ts i x d' g' e1 e2 e3 => by
        have e1 : (s.hob d1 g1).map (fun ts => ts.map fun t => t.kill d g) = some ts := e1
        rw [ehob] at e1
        obtain ⟨ts0, hts0, rfl⟩ := map_some e1
        rw [List.getElem?_map] at e2
        obtain ⟨x0, hx0, rfl⟩ := map_some e2
        obtain ⟨_, _, cs9, ty9, _, hall⟩ := h0.hobs d1 g1 ts0 hts0
        obtain ⟨_, _, _, _, hidx⟩ := hall i x0 hx0
        exact hid hidx e3)).genUp (gen' := fun d' => st.gen d' + 1) (fun d' => by
          show s.gen d' <= _
          rw [egen]
          split
          · rename_i e; rw [e]; exact Nat.le_refl _
          · exact Nat.le_succ _)
    have hnone : st.obj D (st.gen D) = none := by
      cases e : st.obj D (st.gen D) with
      | none => rfl
      | some x => exact absurd (h0.gens D (st.gen D) (by rw [e]; rfl)) (Nat.lt_irrefl _)
    have e : ({ (s.kill d g) with obj := fun d' g' => if d' = d /\ g' = g then some cs else if d' = D /\ g' = st.gen D then none else (s.kill d g).obj d' g', gen := fun d' => st.gen d' + 1 } : St) = insSt st d g cs := by
      refine st_eq (fun u => ?_) (fun d' g' => ?_) (fun d' => rfl) (fun d' g' => ?_) (fun u => ?_)
      · show (s.tmp u).kill d g = (st.tmp u).kill d g
        rw [etmp]
      · show (if d' = d /\ g' = g then some cs else if d' = D /\ g' = st.gen D then none else s.obj d' g') = (if d' = d /\ g' = g then some cs else st.obj d' g')
        by_cases he : d' = d /\ g' = g
        · rw [if_pos he, if_pos he]
        · rw [if_neg he, if_neg he]
          by_cases he2 : d' = D /\ g' = st.gen D
          · rw [if_pos he2]; obtain ⟨rfl, rfl⟩ := he2; exact hnone.symm
          · rw [if_neg he2, eobj, if_neg he2]
      · show (s.hob d' g').map _ = (st.hob d' g').map _
        rw [ehob]
      · show (s.up u).kill d g = (st.up u).kill d g
        rw [eup]
    rw [e] at h1
    refine ⟨_, h1, ?_, hgen⟩
    obtain ⟨cap, cs', ty', a1, a2, a3, a4⟩ := ht
    exact ⟨cap, cs', ty', by rw [upd_self]; exact a1, a2, by rw [upd_self]; exact a3, a4⟩
theorem leaves_in {C : Cx} (hC : TabOk C.P C.X) (hgood : Good C.P C.good) {f : FuncId} {d g n m : Nat} {vs : List TV} {cs cs0 : List SV}
    (hd : d < N0) (ho : st.obj d g = some cs0)
    (hw : ∀ c, n <= c -> ∃ k s t, callN C.P C.X C.mu C.good k f [.st false st (.rfc d g 2 0 n c :: vs)] = some (.st s t, []) /\ InsLeaves st d g m cs s t)
    {vals : Array Value} (hrel : Rel w0 F I Z N β st a w) (hsz : vals.size = vs.length + 1)
    (hv : ∀ (i : Nat) (v : TV), (TV.ref d g 2 0 n :: vs)[i]? = some v -> RepT β w (Mut F β st) (vals.getD i undef) v /\ ∀ d g, v.id = some (d, g) -> g < st.gen d) :
    Invk C.P f vals w fun e w' => ∃ v, e = .returned v /\ InRet w0 F I Z N st a w' false v (.st (insSt st d g cs) (.ref d g 2 0 m)) := by
  obtain ⟨⟨cap, us, ty, h1, h2, h3, h4⟩, hid⟩ := hv 0 _ rfl
  obtain ⟨k, s, t, hc, hl⟩ := hw cap h2
  refine ((callN_all hC hgood C.mu k).2.1 f false st _ _ _ hc w0 F I Z N β a w vals hrel (by simpa using hsz) (fun i v hi => ?_)).mono ?_
  · cases i with
    | zero =>
      simp only [List.getElem?_cons_zero, Option.some.injEq] at hi
      subst hi
      exact ⟨⟨us, ty, h1, h2, h3, h4⟩, fun d' g' e => hid d' g' e⟩
    | succ i => exact hv (i + 1) v hi
  · rintro e w' ⟨v, rfl, _, β1, hr, ht, _⟩
    obtain ⟨β', a1, a2, a3⟩ := hl.to hrel hd ho hr ht
    exact ⟨v, rfl, rfl, β', a1, a2, a3⟩
end
end Go.Ev
namespace Go.Proofs.YticocojomlfhgaaGreatDoor
open Go.Ev
noncomputable abbrev muF0 (f : Nat) : Bool := Nat.beq f 147
noncomputable abbrev muF1 (f : Nat) : Bool := muF0 f
noncomputable abbrev muF2 (f : Nat) : Bool := muF1 f
noncomputable abbrev muF3 (f : Nat) : Bool := muF2 f
noncomputable abbrev muF4 (f : Nat) : Bool := muF3 f
noncomputable abbrev muF5 (f : Nat) : Bool := muF4 f
noncomputable abbrev muF6 (f : Nat) : Bool := Bool.rec (muF5 f) true (Nat.beq f 45)
noncomputable abbrev muF7 (f : Nat) : Bool := Bool.rec (Bool.rec (muF6 f) true (Nat.beq f (1000000 + 11))) true (Nat.beq f 11)
noncomputable abbrev muF8 (f : Nat) : Bool := Bool.rec (Bool.rec (muF7 f) true (Nat.beq f (1000000 + 12))) true (Nat.beq f 12)
noncomputable abbrev muF9 (f : Nat) : Bool := Bool.rec (Bool.rec (muF8 f) true (Nat.beq f (1000000 + 16))) true (Nat.beq f 16)
noncomputable abbrev muF10 (f : Nat) : Bool := Bool.rec (Bool.rec (muF9 f) true (Nat.beq f (1000000 + 18))) true (Nat.beq f 18)
noncomputable abbrev muF11 (f : Nat) : Bool := Bool.rec (Bool.rec (muF10 f) true (Nat.beq f (1000000 + 19))) true (Nat.beq f 19)
noncomputable abbrev muF12 (f : Nat) : Bool := Bool.rec (Bool.rec (muF11 f) true (Nat.beq f (1000000 + 28))) true (Nat.beq f 28)
noncomputable abbrev muF13 (f : Nat) : Bool := Bool.rec (Bool.rec (muF12 f) true (Nat.beq f (1000000 + 30))) true (Nat.beq f 30)
noncomputable abbrev muF14 (f : Nat) : Bool := Bool.rec (Bool.rec (muF13 f) true (Nat.beq f (1000000 + 31))) true (Nat.beq f 31)
noncomputable abbrev muF15 (f : Nat) : Bool := Bool.rec (Bool.rec (muF14 f) true (Nat.beq f (1000000 + 32))) true (Nat.beq f 32)
noncomputable abbrev muF16 (f : Nat) : Bool := Bool.rec (Bool.rec (muF15 f) true (Nat.beq f (1000000 + 38))) true (Nat.beq f 38)
noncomputable abbrev muF17 (f : Nat) : Bool := Bool.rec (Bool.rec (muF16 f) true (Nat.beq f (1000000 + 26))) true (Nat.beq f 26)
noncomputable abbrev muF18 (f : Nat) : Bool := Bool.rec (Bool.rec (muF17 f) true (Nat.beq f (1000000 + 39))) true (Nat.beq f 39)
noncomputable abbrev muF19 (f : Nat) : Bool := Bool.rec (Bool.rec (muF18 f) true (Nat.beq f (1000000 + 25))) true (Nat.beq f 25)
noncomputable abbrev muF20 (f : Nat) : Bool := Bool.rec (Bool.rec (muF19 f) true (Nat.beq f (1000000 + 27))) true (Nat.beq f 27)
noncomputable abbrev muF21 (f : Nat) : Bool := Bool.rec (Bool.rec (muF20 f) true (Nat.beq f (1000000 + 29))) true (Nat.beq f 29)
noncomputable abbrev muF22 (f : Nat) : Bool := Bool.rec (Bool.rec (muF21 f) true (Nat.beq f (1000000 + 43))) true (Nat.beq f 43)
noncomputable abbrev muF23 (f : Nat) : Bool := Bool.rec (Bool.rec (muF22 f) true (Nat.beq f (1000000 + 21))) true (Nat.beq f 21)
noncomputable abbrev muF24 (f : Nat) : Bool := Bool.rec (Bool.rec (muF23 f) true (Nat.beq f (1000000 + 22))) true (Nat.beq f 22)
noncomputable abbrev muF25 (f : Nat) : Bool := Bool.rec (Bool.rec (muF24 f) true (Nat.beq f (1000000 + 48))) true (Nat.beq f 48)
noncomputable abbrev muF (f : Nat) : Bool := muF25 f
theorem muF_at0 : muF 147 = true := by kernel_rfl
attribute [go_sem] muF_at0
theorem muF_at6 : muF 45 = true := by kernel_rfl
attribute [go_sem] muF_at6
theorem muF_at7 : muF 11 = true := by kernel_rfl
theorem muF_in7 : muF (1000000 + 11) = true := by kernel_rfl
attribute [go_sem] muF_at7 muF_in7
theorem muF_at8 : muF 12 = true := by kernel_rfl
theorem muF_in8 : muF (1000000 + 12) = true := by kernel_rfl
attribute [go_sem] muF_at8 muF_in8
theorem muF_at9 : muF 16 = true := by kernel_rfl
theorem muF_in9 : muF (1000000 + 16) = true := by kernel_rfl
attribute [go_sem] muF_at9 muF_in9
theorem muF_at10 : muF 18 = true := by kernel_rfl
theorem muF_in10 : muF (1000000 + 18) = true := by kernel_rfl
attribute [go_sem] muF_at10 muF_in10
theorem muF_at11 : muF 19 = true := by kernel_rfl
theorem muF_in11 : muF (1000000 + 19) = true := by kernel_rfl
attribute [go_sem] muF_at11 muF_in11
theorem muF_at12 : muF 28 = true := by kernel_rfl
theorem muF_in12 : muF (1000000 + 28) = true := by kernel_rfl
attribute [go_sem] muF_at12 muF_in12
theorem muF_at13 : muF 30 = true := by kernel_rfl
theorem muF_in13 : muF (1000000 + 30) = true := by kernel_rfl
attribute [go_sem] muF_at13 muF_in13
theorem muF_at14 : muF 31 = true := by kernel_rfl
theorem muF_in14 : muF (1000000 + 31) = true := by kernel_rfl
attribute [go_sem] muF_at14 muF_in14
theorem muF_at15 : muF 32 = true := by kernel_rfl
theorem muF_in15 : muF (1000000 + 32) = true := by kernel_rfl
attribute [go_sem] muF_at15 muF_in15
theorem muF_at16 : muF 38 = true := by kernel_rfl
theorem muF_in16 : muF (1000000 + 38) = true := by kernel_rfl
attribute [go_sem] muF_at16 muF_in16
theorem muF_at17 : muF 26 = true := by kernel_rfl
theorem muF_in17 : muF (1000000 + 26) = true := by kernel_rfl
attribute [go_sem] muF_at17 muF_in17
theorem muF_at18 : muF 39 = true := by kernel_rfl
theorem muF_in18 : muF (1000000 + 39) = true := by kernel_rfl
attribute [go_sem] muF_at18 muF_in18
theorem muF_at19 : muF 25 = true := by kernel_rfl
theorem muF_in19 : muF (1000000 + 25) = true := by kernel_rfl
attribute [go_sem] muF_at19 muF_in19
theorem muF_at20 : muF 27 = true := by kernel_rfl
theorem muF_in20 : muF (1000000 + 27) = true := by kernel_rfl
attribute [go_sem] muF_at20 muF_in20
theorem muF_at21 : muF 29 = true := by kernel_rfl
theorem muF_in21 : muF (1000000 + 29) = true := by kernel_rfl
attribute [go_sem] muF_at21 muF_in21
theorem muF_at22 : muF 43 = true := by kernel_rfl
theorem muF_in22 : muF (1000000 + 43) = true := by kernel_rfl
attribute [go_sem] muF_at22 muF_in22
theorem muF_at23 : muF 21 = true := by kernel_rfl
theorem muF_in23 : muF (1000000 + 21) = true := by kernel_rfl
attribute [go_sem] muF_at23 muF_in23
theorem muF_at24 : muF 22 = true := by kernel_rfl
theorem muF_in24 : muF (1000000 + 22) = true := by kernel_rfl
attribute [go_sem] muF_at24 muF_in24
theorem muF_at25 : muF 48 = true := by kernel_rfl
theorem muF_in25 : muF (1000000 + 48) = true := by kernel_rfl
attribute [go_sem] muF_at25 muF_in25
noncomputable def xS : Callf := fun g args =>
  if Nat.beq g 81 then xIndex args else
  if Nat.beq g 98 then xCmp args else
  if Nat.beq g 150 then xCount args else
  if Nat.beq g 41 then xTrim args else
  if Nat.beq g 112 then xTrimLeft args else
  if Nat.beq g 73 then xJoin args else
  if Nat.beq g 113 then xAtoi args else
  cloneX 125 g args
theorem xS_none (f : FuncId) (k : Bool) (st : St) (vs : List TV) : xS f [.st k st vs] = none := by
  unfold xS cloneX
  repeat (first | rfl | split)
noncomputable def CB : Cx := { P := Tryz.prog, X := xS, mu := muF, good := good }
theorem CB_P : CB.P = Tryz.prog := _root_.id rfl
theorem CB_mu (f : Nat) : CB.mu f = muF f := _root_.id rfl
attribute [go_sem] CB_P CB_mu
noncomputable def xT : Callf := fun g args =>
  if Nat.beq g 104 then xGenSplit args else
  xS g args
noncomputable def CZ : Cx := { P := Tryz.prog, X := xT, mu := muF, good := good }
theorem CZ_P : CZ.P = Tryz.prog := _root_.id rfl
theorem CZ_mu (f : Nat) : CZ.mu f = muF f := _root_.id rfl
noncomputable def XL : Callf := fun g args => if Nat.beq g 145 then (match args with
    | [.sv s, .sv (.int .u64 (.ofNat k)), .sv (.int .i64 (.ofNat n))] => match decV s with
      | some xs => if k < 32 /\ xs.length <= n /\ n <= xs.length + 1 then some (.row ((limN n (wth xs * 2 ^ k)).map limb) 1 0 n, [none, none, none]) else none
      | none => none
    | _ => none) else
  if Nat.beq g 71 then xSplit args else
  if Nat.beq g 32 then xIns args else
  if Nat.beq g 38 then xDel args else
  CZ.X g args
noncomputable def CX : Cx := { CZ with X := XL }
theorem CX_P : CX.P = Tryz.prog := _root_.id rfl
theorem CX_mu (f : Nat) : CX.mu f = muF f := _root_.id rfl
attribute [go_sem] CZ_P CZ_mu CX_P CX_mu Nat.reduceBEq
end Go.Proofs.YticocojomlfhgaaGreatDoor
namespace Go.Proofs
open Go.Shelf
def Tryz.lays156_ren : Go.Shelf.Ren := ⟨fun | 156 => 73 | 165 => 106 | 166 => 107 | 169 => 108 | 240 => 133 | 241 => 134 | 276 => 152 | 277 => 153 | n => n, fun | 31 => 39 | 9 => 9 | 3 => 3 | 4 => 4 | 0 => 0 | 20 => 20 | 72 => 128 | 76 => 132 | 70 => 126 | 37 => 38 | 75 => 131 | 127 => 146 | 164 => 160 | 5 => 5 | 80 => 134 | n => n, fun | n => n⟩
theorem Tryz.lays156 : Go.Proofs.Lays.n156 Tryz.prog Tryz.lays156_ren := {
  mixed := by kernel_rfl
  f156 := Tryz.func73.trans (congrArg some (by kernel_rfl))
  f165 := Tryz.func106.trans (congrArg some (by kernel_rfl))
  f166 := Tryz.func107.trans (congrArg some (by kernel_rfl))
  f169 := Tryz.func108.trans (congrArg some (by kernel_rfl))
  f240 := Tryz.func133.trans (congrArg some (by kernel_rfl))
  f241 := Tryz.func134.trans (congrArg some (by kernel_rfl))
  f276 := Tryz.func152.trans (congrArg some (by kernel_rfl))
  f277 := Tryz.func153.trans (congrArg some (by kernel_rfl))
  t0 := Tryz.underlying0
  a0 := Tryz.isAgg0
  z0 := Tryz.sizeOf0
  v0 := Tryz.zeroValue0
  t3 := Tryz.underlying3
  a3 := Tryz.isAgg3
  z3 := Tryz.sizeOf3
  v3 := Tryz.zeroValue3
  t4 := Tryz.underlying4
  a4 := Tryz.isAgg4
  z4 := Tryz.sizeOf4
  v4 := Tryz.zeroValue4
  t9 := Tryz.underlying9
  a9 := Tryz.isAgg9
  z9 := Tryz.sizeOf9
  v9 := Tryz.zeroValue9
  t20 := Tryz.underlying20
  a20 := Tryz.isAgg20
  z20 := Tryz.sizeOf20
  v20 := Tryz.zeroValue20
  t31 := Tryz.underlying39
  a31 := Tryz.isAgg39
  z31 := Tryz.sizeOf39
  v31 := Tryz.zeroValue39
  t37 := Tryz.underlying38
  a37 := Tryz.isAgg38
  z37 := Tryz.sizeOf38
  v37 := Tryz.zeroValue38
  t70 := Tryz.underlying126
  a70 := Tryz.isAgg126
  z70 := Tryz.sizeOf126
  v70 := Tryz.zeroValue126
  t72 := Tryz.underlying128
  a72 := Tryz.isAgg128
  z72 := Tryz.sizeOf128
  v72 := Tryz.zeroValue128
  t75 := Tryz.underlying131
  a75 := Tryz.isAgg131
  z75 := Tryz.sizeOf131
  v75 := Tryz.zeroValue131
  t76 := Tryz.underlying132
  a76 := Tryz.isAgg132
  z76 := Tryz.sizeOf132
  v76 := Tryz.zeroValue132
  t127 := Tryz.underlying146
  a127 := Tryz.isAgg146
  z127 := Tryz.sizeOf146
  v127 := Tryz.zeroValue146
  t164 := Tryz.underlying160
  a164 := Tryz.isAgg160
  z164 := Tryz.sizeOf160
  v164 := Tryz.zeroValue160 }
theorem Tryz.Builder_Extra_156 : Builder.Extra Tryz.prog Tryz.lays156_ren := {
  sizeBuilder := by kernel_rfl
  liesBuilder := by kernel_rfl
  t5 := Tryz.underlying5
  a5 := Tryz.isAgg5
  z5 := Tryz.sizeOf5
  v5 := Tryz.zeroValue5
  infoByte := by kernel_rfl
  cellsByte := by kernel_rfl
  sizeByte := by kernel_rfl
  neB5 := by decide }
def Tryz.lays160_ren : Go.Shelf.Ren := ⟨fun | 160 => 41 | 232 => 57 | 231 => 56 | 227 => 58 | 234 => 60 | 233 => 59 | 236 => 62 | 235 => 61 | 228 => 82 | 271 => 85 | 151 => 84 | 197 => 83 | 120 => 118 | 152 => 117 | 260 => 116 | 137 => 40 | 119 => 139 | 224 => 140 | 225 => 141 | 217 => 55 | 266 => 81 | n => n, fun | 9 => 9 | 4 => 4 | 3 => 3 | 5 => 5 | 117 => 95 | 116 => 94 | 0 => 0 | 124 => 98 | 21 => 21 | 105 => 113 | 46 => 88 | 119 => 148 | 139 => 151 | 138 => 150 | n => n, fun | 3 => 1 | 4 => 2 | n => n⟩
theorem Tryz.lays160 : Go.Proofs.Lays.n160 Tryz.prog Tryz.lays160_ren := {
  mixed := by kernel_rfl
  f119 := Tryz.func139.trans (congrArg some (by kernel_rfl))
  f120 := Tryz.func118.trans (congrArg some (by kernel_rfl))
  f137 := Tryz.func40.trans (congrArg some (by kernel_rfl))
  f151 := Tryz.func84.trans (congrArg some (by kernel_rfl))
  f152 := Tryz.func117.trans (congrArg some (by kernel_rfl))
  f160 := Tryz.func41.trans (congrArg some (by kernel_rfl))
  f197 := Tryz.func83.trans (congrArg some (by kernel_rfl))
  f217 := Tryz.func55.trans (congrArg some (by kernel_rfl))
  f224 := Tryz.func140.trans (congrArg some (by kernel_rfl))
  f225 := Tryz.func141.trans (congrArg some (by kernel_rfl))
  f227 := Tryz.func58.trans (congrArg some (by kernel_rfl))
  f228 := Tryz.func82.trans (congrArg some (by kernel_rfl))
  f231 := Tryz.func56.trans (congrArg some (by kernel_rfl))
  f232 := Tryz.func57.trans (congrArg some (by kernel_rfl))
  f233 := Tryz.func59.trans (congrArg some (by kernel_rfl))
  f234 := Tryz.func60.trans (congrArg some (by kernel_rfl))
  f235 := Tryz.func61.trans (congrArg some (by kernel_rfl))
  f236 := Tryz.func62.trans (congrArg some (by kernel_rfl))
  f260 := Tryz.func116.trans (congrArg some (by kernel_rfl))
  f266 := Tryz.func81.trans (congrArg some (by kernel_rfl))
  f271 := Tryz.func85.trans (congrArg some (by kernel_rfl))
  t0 := Tryz.underlying0
  a0 := Tryz.isAgg0
  z0 := Tryz.sizeOf0
  v0 := Tryz.zeroValue0
  t3 := Tryz.underlying3
  a3 := Tryz.isAgg3
  z3 := Tryz.sizeOf3
  v3 := Tryz.zeroValue3
  t4 := Tryz.underlying4
  a4 := Tryz.isAgg4
  z4 := Tryz.sizeOf4
  v4 := Tryz.zeroValue4
  t5 := Tryz.underlying5
  a5 := Tryz.isAgg5
  z5 := Tryz.sizeOf5
  v5 := Tryz.zeroValue5
  t9 := Tryz.underlying9
  a9 := Tryz.isAgg9
  z9 := Tryz.sizeOf9
  v9 := Tryz.zeroValue9
  t21 := Tryz.underlying21
  a21 := Tryz.isAgg21
  z21 := Tryz.sizeOf21
  v21 := Tryz.zeroValue21
  t46 := Tryz.underlying88
  a46 := Tryz.isAgg88
  z46 := Tryz.sizeOf88
  v46 := Tryz.zeroValue88
  t105 := Tryz.underlying113
  a105 := Tryz.isAgg113
  z105 := Tryz.sizeOf113
  v105 := Tryz.zeroValue113
  t116 := Tryz.underlying94
  a116 := Tryz.isAgg94
  z116 := Tryz.sizeOf94
  t117 := Tryz.underlying95
  a117 := Tryz.isAgg95
  z117 := Tryz.sizeOf95
  v117 := Tryz.zeroValue95
  t119 := Tryz.underlying148
  a119 := Tryz.isAgg148
  z119 := Tryz.sizeOf148
  t124 := Tryz.underlying98
  a124 := Tryz.isAgg98
  z124 := Tryz.sizeOf98
  v124 := Tryz.zeroValue98
  t138 := Tryz.underlying150
  a138 := Tryz.isAgg150
  z138 := Tryz.sizeOf150
  v138 := Tryz.zeroValue150
  t139 := Tryz.underlying151
  a139 := Tryz.isAgg151
  z139 := Tryz.sizeOf151
  v139 := Tryz.zeroValue151
  g3 := by kernel_rfl
  g4 := by kernel_rfl }
def Tryz.lays161_ren : Go.Shelf.Ren := ⟨fun | 161 => 112 | 231 => 56 | 227 => 58 | 233 => 59 | 235 => 61 | 228 => 82 | 197 => 83 | 151 => 84 | 260 => 116 | 152 => 117 | 137 => 40 | 119 => 139 | 224 => 140 | 225 => 141 | 217 => 55 | 266 => 81 | n => n, fun | 9 => 9 | 4 => 4 | 3 => 3 | 5 => 5 | 117 => 95 | 116 => 94 | 0 => 0 | 124 => 98 | 105 => 113 | 21 => 21 | 119 => 148 | 46 => 88 | 139 => 151 | 138 => 150 | n => n, fun | 3 => 1 | 4 => 2 | n => n⟩
theorem Tryz.lays161 : Go.Proofs.Lays.n161 Tryz.prog Tryz.lays161_ren := {
  mixed := by kernel_rfl
  f119 := Tryz.func139.trans (congrArg some (by kernel_rfl))
  f137 := Tryz.func40.trans (congrArg some (by kernel_rfl))
  f151 := Tryz.func84.trans (congrArg some (by kernel_rfl))
  f152 := Tryz.func117.trans (congrArg some (by kernel_rfl))
  f161 := Tryz.func112.trans (congrArg some (by kernel_rfl))
  f197 := Tryz.func83.trans (congrArg some (by kernel_rfl))
  f217 := Tryz.func55.trans (congrArg some (by kernel_rfl))
  f224 := Tryz.func140.trans (congrArg some (by kernel_rfl))
  f225 := Tryz.func141.trans (congrArg some (by kernel_rfl))
  f227 := Tryz.func58.trans (congrArg some (by kernel_rfl))
  f228 := Tryz.func82.trans (congrArg some (by kernel_rfl))
  f231 := Tryz.func56.trans (congrArg some (by kernel_rfl))
  f233 := Tryz.func59.trans (congrArg some (by kernel_rfl))
  f235 := Tryz.func61.trans (congrArg some (by kernel_rfl))
  f260 := Tryz.func116.trans (congrArg some (by kernel_rfl))
  f266 := Tryz.func81.trans (congrArg some (by kernel_rfl))
  t0 := Tryz.underlying0
  a0 := Tryz.isAgg0
  z0 := Tryz.sizeOf0
  v0 := Tryz.zeroValue0
  t3 := Tryz.underlying3
  a3 := Tryz.isAgg3
  z3 := Tryz.sizeOf3
  v3 := Tryz.zeroValue3
  t4 := Tryz.underlying4
  a4 := Tryz.isAgg4
  z4 := Tryz.sizeOf4
  v4 := Tryz.zeroValue4
  t5 := Tryz.underlying5
  a5 := Tryz.isAgg5
  z5 := Tryz.sizeOf5
  v5 := Tryz.zeroValue5
  t9 := Tryz.underlying9
  a9 := Tryz.isAgg9
  z9 := Tryz.sizeOf9
  v9 := Tryz.zeroValue9
  t21 := Tryz.underlying21
  a21 := Tryz.isAgg21
  z21 := Tryz.sizeOf21
  v21 := Tryz.zeroValue21
  t46 := Tryz.underlying88
  a46 := Tryz.isAgg88
  z46 := Tryz.sizeOf88
  v46 := Tryz.zeroValue88
  t105 := Tryz.underlying113
  a105 := Tryz.isAgg113
  z105 := Tryz.sizeOf113
  v105 := Tryz.zeroValue113
  t116 := Tryz.underlying94
  a116 := Tryz.isAgg94
  z116 := Tryz.sizeOf94
  t117 := Tryz.underlying95
  a117 := Tryz.isAgg95
  z117 := Tryz.sizeOf95
  v117 := Tryz.zeroValue95
  t119 := Tryz.underlying148
  a119 := Tryz.isAgg148
  z119 := Tryz.sizeOf148
  t124 := Tryz.underlying98
  a124 := Tryz.isAgg98
  z124 := Tryz.sizeOf98
  v124 := Tryz.zeroValue98
  t138 := Tryz.underlying150
  a138 := Tryz.isAgg150
  z138 := Tryz.sizeOf150
  v138 := Tryz.zeroValue150
  t139 := Tryz.underlying151
  a139 := Tryz.isAgg151
  z139 := Tryz.sizeOf151
  v139 := Tryz.zeroValue151
  g3 := by kernel_rfl
  g4 := by kernel_rfl }
def Tryz.lays172_ren : Go.Shelf.Ren := ⟨fun | 172 => 113 | 244 => 137 | 245 => 138 | 247 => 155 | 279 => 156 | 280 => 157 | 281 => 158 | 282 => 159 | 287 => 164 | 316 => 165 | 171 => 167 | 205 => 166 | 321 => 168 | 322 => 169 | 243 => 170 | 246 => 171 | 283 => 172 | 284 => 173 | 285 => 174 | 286 => 175 | 129 => 177 | 317 => 176 | 318 => 178 | 319 => 179 | 320 => 180 | 337 => 181 | 338 => 182 | n => n, fun | 9 => 9 | 3 => 3 | 75 => 131 | 76 => 132 | 4 => 4 | 5 => 5 | 167 => 163 | 37 => 38 | 0 => 0 | 85 => 164 | 2 => 2 | 168 => 166 | 53 => 73 | 175 => 170 | 46 => 88 | 210 => 173 | 127 => 146 | 145 => 179 | 143 => 177 | 21 => 21 | 171 => 181 | 173 => 184 | 212 => 187 | 51 => 31 | 20 => 20 | 213 => 188 | 232 => 190 | 233 => 191 | 80 => 134 | n => n, fun | 15 => 4 | 16 => 5 | 17 => 6 | 18 => 7 | 19 => 8 | n => n⟩
theorem Tryz.lays172 : Go.Proofs.Lays.n172 Tryz.prog Tryz.lays172_ren := {
  mixed := by kernel_rfl
  f129 := Tryz.func177.trans (congrArg some (by kernel_rfl))
  f171 := Tryz.func167.trans (congrArg some (by kernel_rfl))
  f172 := Tryz.func113.trans (congrArg some (by kernel_rfl))
  f205 := Tryz.func166.trans (congrArg some (by kernel_rfl))
  f243 := Tryz.func170.trans (congrArg some (by kernel_rfl))
  f244 := Tryz.func137.trans (congrArg some (by kernel_rfl))
  f245 := Tryz.func138.trans (congrArg some (by kernel_rfl))
  f246 := Tryz.func171.trans (congrArg some (by kernel_rfl))
  f247 := Tryz.func155.trans (congrArg some (by kernel_rfl))
  f279 := Tryz.func156.trans (congrArg some (by kernel_rfl))
  f280 := Tryz.func157.trans (congrArg some (by kernel_rfl))
  f281 := Tryz.func158.trans (congrArg some (by kernel_rfl))
  f282 := Tryz.func159.trans (congrArg some (by kernel_rfl))
  f283 := Tryz.func172.trans (congrArg some (by kernel_rfl))
  f284 := Tryz.func173.trans (congrArg some (by kernel_rfl))
  f285 := Tryz.func174.trans (congrArg some (by kernel_rfl))
  f286 := Tryz.func175.trans (congrArg some (by kernel_rfl))
  f287 := Tryz.func164.trans (congrArg some (by kernel_rfl))
  f316 := Tryz.func165.trans (congrArg some (by kernel_rfl))
  f317 := Tryz.func176.trans (congrArg some (by kernel_rfl))
  f318 := Tryz.func178.trans (congrArg some (by kernel_rfl))
  f319 := Tryz.func179.trans (congrArg some (by kernel_rfl))
  f320 := Tryz.func180.trans (congrArg some (by kernel_rfl))
  f321 := Tryz.func168.trans (congrArg some (by kernel_rfl))
  f322 := Tryz.func169.trans (congrArg some (by kernel_rfl))
  f337 := Tryz.func181.trans (congrArg some (by kernel_rfl))
  f338 := Tryz.func182.trans (congrArg some (by kernel_rfl))
  t0 := Tryz.underlying0
  a0 := Tryz.isAgg0
  z0 := Tryz.sizeOf0
  v0 := Tryz.zeroValue0
  t2 := Tryz.underlying2
  a2 := Tryz.isAgg2
  z2 := Tryz.sizeOf2
  v2 := Tryz.zeroValue2
  t3 := Tryz.underlying3
  a3 := Tryz.isAgg3
  z3 := Tryz.sizeOf3
  v3 := Tryz.zeroValue3
  t4 := Tryz.underlying4
  a4 := Tryz.isAgg4
  z4 := Tryz.sizeOf4
  v4 := Tryz.zeroValue4
  t5 := Tryz.underlying5
  a5 := Tryz.isAgg5
  z5 := Tryz.sizeOf5
  v5 := Tryz.zeroValue5
  t9 := Tryz.underlying9
  a9 := Tryz.isAgg9
  z9 := Tryz.sizeOf9
  v9 := Tryz.zeroValue9
  t20 := Tryz.underlying20
  a20 := Tryz.isAgg20
  z20 := Tryz.sizeOf20
  v20 := Tryz.zeroValue20
  t21 := Tryz.underlying21
  a21 := Tryz.isAgg21
  z21 := Tryz.sizeOf21
  v21 := Tryz.zeroValue21
  t37 := Tryz.underlying38
  a37 := Tryz.isAgg38
  z37 := Tryz.sizeOf38
  v37 := Tryz.zeroValue38
  t46 := Tryz.underlying88
  a46 := Tryz.isAgg88
  z46 := Tryz.sizeOf88
  v46 := Tryz.zeroValue88
  t51 := Tryz.underlying31
  a51 := Tryz.isAgg31
  z51 := Tryz.sizeOf31
  v51 := Tryz.zeroValue31
  t53 := Tryz.underlying73
  a53 := Tryz.isAgg73
  z53 := Tryz.sizeOf73
  v53 := Tryz.zeroValue73
  t75 := Tryz.underlying131
  a75 := Tryz.isAgg131
  z75 := Tryz.sizeOf131
  v75 := Tryz.zeroValue131
  t76 := Tryz.underlying132
  a76 := Tryz.isAgg132
  z76 := Tryz.sizeOf132
  v76 := Tryz.zeroValue132
  t85 := Tryz.underlying164
  a85 := Tryz.isAgg164
  z85 := Tryz.sizeOf164
  v85 := Tryz.zeroValue164
  t127 := Tryz.underlying146
  a127 := Tryz.isAgg146
  z127 := Tryz.sizeOf146
  v127 := Tryz.zeroValue146
  t143 := Tryz.underlying177
  a143 := Tryz.isAgg177
  z143 := Tryz.sizeOf177
  v143 := Tryz.zeroValue177
  t145 := Tryz.underlying179
  a145 := Tryz.isAgg179
  z145 := Tryz.sizeOf179
  v145 := Tryz.zeroValue179
  t167 := Tryz.underlying163
  a167 := Tryz.isAgg163
  z167 := Tryz.sizeOf163
  v167 := Tryz.zeroValue163
  t168 := Tryz.underlying166
  a168 := Tryz.isAgg166
  z168 := Tryz.sizeOf166
  v168 := Tryz.zeroValue166
  t171 := Tryz.underlying181
  a171 := Tryz.isAgg181
  z171 := Tryz.sizeOf181
  v171 := Tryz.zeroValue181
  t173 := Tryz.underlying184
  a173 := Tryz.isAgg184
  z173 := Tryz.sizeOf184
  v173 := Tryz.zeroValue184
  t175 := Tryz.underlying170
  a175 := Tryz.isAgg170
  z175 := Tryz.sizeOf170
  v175 := Tryz.zeroValue170
  t210 := Tryz.underlying173
  a210 := Tryz.isAgg173
  z210 := Tryz.sizeOf173
  v210 := Tryz.zeroValue173
  t212 := Tryz.underlying187
  a212 := Tryz.isAgg187
  z212 := Tryz.sizeOf187
  v212 := Tryz.zeroValue187
  t213 := Tryz.underlying188
  a213 := Tryz.isAgg188
  z213 := Tryz.sizeOf188
  t232 := Tryz.underlying190
  a232 := Tryz.isAgg190
  z232 := Tryz.sizeOf190
  v232 := Tryz.zeroValue190
  t233 := Tryz.underlying191
  a233 := Tryz.isAgg191
  z233 := Tryz.sizeOf191
  v233 := Tryz.zeroValue191
  g15 := by kernel_rfl
  g16 := by kernel_rfl
  g17 := by kernel_rfl
  g18 := by kernel_rfl
  g19 := by kernel_rfl }
end Go.Proofs
namespace Go.Proofs.YticocojomlfhgaaGreatDoor
open Go.Ev Go.RowKit
noncomputable def C0 : Cx := { P := Tryz.prog, X := fun _ _ => none, mu := fun _ => false, good := fun _ => false }
theorem C0_P : C0.P = Tryz.prog := rfl
theorem clone_ok0 : CallOk Tryz.prog (cloneX 125) := by
  refine cloneX_ok (f := 125) (fn := Tryz.f125) (e := (31, 1, 4)) (by kernel_rfl) (by kernel_rfl) rfl (Nat.lt_of_lt_of_le (Nat.lt_succ_self 4) (Nat.le_of_ble_eq_true (by kernel_rfl))) (by kernel_rfl) fun n cs => ?_
  refine ⟨20, _, rfl, rfl, ⟨20, _, rfl, rfl⟩, fun h1 h2 h3 => ?_⟩
  have hC : ∀ m, CallAll Tryz.prog (callN C0.P C0.X C0.mu C0.good m) := fun m => callN_all (tabOk_of (fun g args r exps h => by cases h) (fun _ _ _ _ => rfl)) (fun f fn h => by cases h) _ m
  suffices h : ∀ {c : Code} {st : St}, WP C0 c st (fun e s => e = .ret /\ retOf Tryz.prog s Tryz.f125.results.toList = some (.sv (.sl n cs))) -> ∃ call mu k st', CallAll Tryz.prog call /\ exec Tryz.prog call mu k c st = some (.ret, st') /\ retOf Tryz.prog st' Tryz.f125.results.toList = some (.sv (.sl n cs)) by
    refine h ?_
    have hlen : (List.length cs : Nat) = n * 1 := by omega
    have h2' : cs.all SV.one = true := h2
    have h5 : (5 < N0) = True := by simp [N0]
    have hr : Tryz.f125.results.toList = [.tmp 2] := by kernel_rfl
    rcases Nat.eq_zero_or_pos n with rfl | hn
    · have : cs = [] := List.eq_nil_of_length_eq_zero h1
      subst this
      simp only [go_sem, C0_P, h1, h2, h2', h3, h5, hr, elemsC, Nat.zero_le, Nat.mul_one, Nat.zero_mul, Nat.zero_add, retOf, resTV, outSV]
    · have hn0 : ¬ n = 0 := by omega
      simp only [go_sem, C0_P, h1, h2, h2', h3, h5, hn0, hr, elemsC, Nat.zero_le, Nat.mul_one, Nat.zero_mul, Nat.zero_add, retOf, resTV, outSV]
      rw [List.take_of_length_le (by omega)]
  rintro c st ⟨m, e, s, he, rfl, hr⟩
  exact ⟨_, _, m, s, hC m, he, hr⟩
theorem xS_ok : CallOk Tryz.prog xS := by
  intro g args r exps h
  unfold xS at h
  split at h
  · rename_i hg
    rw [show g = 81 from Nat.eq_of_beq_eq_true hg]
    exact index_at (fn := Tryz.f81) (by kernel_rfl) (by kernel_rfl) (by kernel_rfl) (by kernel_rfl) (by kernel_rfl) h
  split at h
  · rename_i hg
    rw [show g = 98 from Nat.eq_of_beq_eq_true hg]
    exact cmp_at (fn := Tryz.f98) (by kernel_rfl) (by kernel_rfl) (by kernel_rfl) (by kernel_rfl) (by kernel_rfl) h
  split at h
  · rename_i hg
    rw [show g = 150 from Nat.eq_of_beq_eq_true hg]
    exact count_at (fn := Tryz.f150) (by kernel_rfl) (by kernel_rfl) (by kernel_rfl) (by kernel_rfl) (by kernel_rfl) h
  split at h
  · rename_i hg
    rw [show g = 41 from Nat.eq_of_beq_eq_true hg]
    exact trim_at (enters_of (fn := Tryz.f41) (c := (Tryz.f41).body.get!) (by kernel_rfl) (by kernel_rfl) (by kernel_rfl)) (fun s c w h1 h2 h3 => Any.strings_Trim_laid Tryz.lays160 (by kernel_rfl) s c w h1 h2 h3) h
  split at h
  · rename_i hg
    rw [show g = 112 from Nat.eq_of_beq_eq_true hg]
    exact trimLeft_at (enters_of (fn := Tryz.f112) (c := (Tryz.f112).body.get!) (by kernel_rfl) (by kernel_rfl) (by kernel_rfl)) (fun s c w h2 h3 => Any.strings_TrimLeft_laid Tryz.lays161 (by kernel_rfl) s c w h2 h3) h
  split at h
  · rename_i hg
    rw [show g = 73 from Nat.eq_of_beq_eq_true hg]
    exact join_at (enters_of (fn := Tryz.f73) (c := (Tryz.f73).body.get!) (by kernel_rfl) (by kernel_rfl) (by kernel_rfl)) (fun a c sep w => Any.strings_Join_none Tryz.lays156 Tryz.Builder_Extra_156 a c sep w) (fun bk o c xs sep w h1 h2 h3 h4 h5 => Any.strings_Join Tryz.lays156 Tryz.Builder_Extra_156 bk o c xs sep w h1 h2 h3 h4 h5) h
  split at h
  · rename_i hg
    rw [show g = 113 from Nat.eq_of_beq_eq_true hg]
    exact atoi_at (enters_of (fn := Tryz.f113) (c := (Tryz.f113).body.get!) (by kernel_rfl) (by kernel_rfl) (by kernel_rfl)) (fun s v w h1 h2 => (Any.strconv_Atoi Tryz.lays172 s v h1 h2 w).mono (by rintro e w' ⟨h3, t, rfl⟩; exact ⟨h3, ⟨rfl, rfl, rfl, by rw [Lib.bytesWorld_size]; omega, fun k hk => Lib.bytesWorld_at_old w _ t k hk⟩⟩)) h
  exact clone_ok0 g args r exps h
end Go.Proofs.YticocojomlfhgaaGreatDoor
namespace Go.Proofs.YticocojomlfhgaaGreatDoor
open Go.Ev
theorem nat_Is (xs : List Nat) (hl : xs.length <= 1099511627776) : Go.Ev.Fn CX 142 [natV xs] (.bool (isT xs)) := by
  refine fni Tryz.f142 ?_; unfold Tryz.f142; simp only [Option.get!_some]
  by_cases h0 : xs.length = 0
  · have e : isT xs = true := by simp [isT, h0]
    rw [e]
    repeat (first | simp only [go_sem] | simp (disch := first | exact oa | fail) only [AX, Int.reduceToNat, Int.reducePow, Nat.reducePow] | refine wki ?_ | refine wqn ?_ | refine vpx [] ?_)
  · have e : isT xs = (xs.getD (xs.length - 1) 0 != 0) := by simp [isT, h0]
    rw [e]
    repeat (first | simp only [go_sem] | simp (disch := first | exact oa | fail) only [AX, Int.reduceToNat, Int.reducePow, Nat.reducePow] | refine wki ?_ | refine wqn ?_ | refine vpx [] ?_)
    rw [bne_nat]
theorem lim_dropLast {xs : List Nat} (h : isT xs = false) : xs.length ≠ 0 /\ lim (wth (xs.take (xs.length - 1))) = lim (wth xs) := by
  unfold isT at h
  simp only [Bool.or_eq_false_iff, beq_eq_false_iff_ne, bne_eq_false_iff_eq] at h
  refine ⟨h.1, ?_⟩
  rcases xs.eq_nil_or_concat with rfl | ⟨ys, z, rfl⟩
  · rfl
  · rw [List.concat_eq_append] at h ⊢
    have e : z = 0 := by simpa using h.2
    subst e
    simp [lim_snoc0]
theorem nat_trim (xs : List Nat) (hx : okL xs) (hl : xs.length <= 1099511627776) : Go.Ev.Fn CX 126 [natV xs] (natV (lim (wth xs))) := by
  refine fni Tryz.f126 ?_; unfold Tryz.f126; simp only [Option.get!_some]
  simp only [go_sem]
  refine vp_loop_inv (fun s => ∃ ys, s.tmp 0 = .sv (natV ys) /\ okL ys /\ ys.length <= xs.length /\ lim (wth ys) = lim (wth xs)) (fun s => (lenTV (s.tmp 0)).getD 0) ⟨xs, rfl, hx, Nat.le_refl _, rfl⟩ ?_
  rintro s ⟨ys, h0, hy, hle, he⟩
  repeat (first | simp only [go_sem, h0] | simp (disch := first | exact oa | fail) only [AX, Int.reduceToNat, Int.reducePow, Nat.reducePow, h0] | refine wki ?_ | refine wqn ?_ | refine vpx [] ?_)
  refine vf_of (nat_Is ys (by omega)) ?_; simp only [go_sem, h0]
  by_cases hT : isT ys = true
  · repeat (first | simp only [go_sem, h0, hT, Bool.not_true] | simp (disch := first | exact oa | fail) only [AX, Int.reduceToNat, Int.reducePow, Nat.reducePow, h0, hT, Bool.not_true] | refine wki ?_ | refine wqn ?_ | refine vpx [] ?_)
    rw [<- he, <- lim_unique hy (isT_iff.1 hT)]
  · have hT : isT ys = false := by simpa using hT
    obtain ⟨h1, h2⟩ := lim_dropLast hT
    repeat (first | simp only [go_sem, h0, hT, Bool.not_false] | simp (disch := first | exact oa | fail) only [AX, Int.reduceToNat, Int.reducePow, Nat.reducePow, h0, hT, Bool.not_false] | refine wki ?_ | refine wqn ?_ | refine vpx [] ?_)
    refine ⟨⟨ys.take (ys.length - 1), ?_, okL_take hy _, ?_, h2.trans he⟩, ?_⟩
    · rw [natV_cut (by omega)]
    · rw [List.length_take]; omega
    · simp only [lenTV, Option.getD_some]; omega
theorem nat_Trim (xs : List Nat) (hx : okL xs) (hl : xs.length <= 274877906944) : Go.Ev.Fn CX 100 [natV xs] (natV (lim (wth xs))) := by
  have hc : Go.Ev.Fn CX 125 [natV (lim (wth xs))] (natV (lim (wth xs))) := by
    refine ⟨1, [none], ?_⟩
    have h1 := lim_length_le hx
    have h2 := natV_one (lim (wth xs))
    have h3 : cloneX 125 125 [.sv (natV (lim (wth xs)))] = some (.sv (natV (lim (wth xs))), [none]) := by
      simp only [cloneX, if_true]
      rw [if_pos ⟨natV_len _, h2, by omega⟩]
    have h4 : CX.X 125 [.sv (natV (lim (wth xs)))] = some (.sv (natV (lim (wth xs))), [none]) := h3
    unfold callN
    rw [stq_sv, List.map_cons, List.map_nil, h4]
  refine fni Tryz.f100 ?_; unfold Tryz.f100; simp only [Option.get!_some]
  simp only [go_sem]
  refine vf_of (nat_trim xs hx (by omega)) ?_; simp only [go_sem]
  refine vf_of (hc) ?_; simp only [go_sem]
theorem nat_Of (n : Nat) (hn : n < 18446744073709551616) : Go.Ev.Fn CX 101 [.int .u64 n] (natV (lim n)) := by
  refine fni Tryz.f101 ?_; unfold Tryz.f101; simp only [Option.get!_some]
  repeat (first | simp only [go_sem] | simp (disch := first | exact oa | fail) only [AX, Int.reduceToNat, Int.reducePow, Nat.reducePow] | refine wki ?_ | refine wqn ?_ | refine vpx [] ?_)
  have e : wth [n % 4294967296, n / 4294967296] = n := by simp only [wth]; omega
  refine vf_of (nat_trim [n % 4294967296, n / 4294967296] (by simp [okL]; omega) (by simp)) ?_; repeat (first | simp only [go_sem] | simp (disch := first | exact oa | fail) only [AX, Int.reduceToNat, Int.reducePow, Nat.reducePow] | refine wki ?_ | refine wqn ?_ | refine vpx [] ?_)
  rw [e]
end Go.Proofs.YticocojomlfhgaaGreatDoor
namespace Go.Proofs.YticocojomlfhgaaGreatDoor
open Go.Ev
def cmpN (a b : Nat) : Int := if a < b then -1 else if a = b then 0 else 1
theorem wth_lt_of {xs ys : List Nat} (hx : okL xs) (hy : okL ys) (hl : xs.length = ys.length) {i : Nat} (hi : i < xs.length) (hd : xs.drop (i + 1) = ys.drop (i + 1)) (h : xs.getD i 0 < ys.getD i 0) : wth xs < wth ys := by
  have h1 : ∀ (zs : List Nat), i < zs.length -> wth zs = wth (zs.take i) + 4294967296 ^ i * (zs.getD i 0 + 4294967296 * wth (zs.drop (i + 1))) := by
    intro zs hz
    conv => lhs; rw [<- List.take_append_drop i zs]
    rw [wth_append, List.length_take, Nat.min_eq_left (by omega), List.drop_eq_getElem_cons hz, wth_cons, List.getD_eq_getElem?_getD, List.getElem?_eq_getElem hz]
    rfl
  rw [h1 xs hi, h1 ys (by omega), hd]
  have h2 := wth_lt (okL_take hx i)
  rw [List.length_take, Nat.min_eq_left (by omega)] at h2
  have h3 : 4294967296 ^ i * (xs.getD i 0 + 4294967296 * wth (ys.drop (i + 1)) + 1) <= 4294967296 ^ i * (ys.getD i 0 + 4294967296 * wth (ys.drop (i + 1))) := Nat.mul_le_mul_left _ (by omega)
  rw [Nat.mul_add _ _ 1, Nat.mul_one] at h3
  omega
theorem lim_length_lt {a b : Nat} (h : (lim a).length < (lim b).length) : a < b := by
  rcases Nat.lt_or_ge a b with h1 | h1
  · exact h1
  · have := trimL_length (okL_lim b) (okL_lim a) (trimL_lim b) (by rw [wth_lim, wth_lim]; exact h1)
    omega
theorem nat_Cmp (xs ys : List Nat) (hx : okL xs) (hy : okL ys) (hl : xs.length <= 1099511627776) (hm : ys.length <= 1099511627776) : Go.Ev.Fn CX 127 [natV xs, natV ys] (.int .i64 (cmpN (wth xs) (wth ys))) := by
  refine fni Tryz.f127 ?_; unfold Tryz.f127; simp only [Option.get!_some]
  have lx := lim_length_le hx
  have ly := lim_length_le hy
  repeat (first | simp only [go_sem] | simp (disch := first | exact oa | fail) only [AX, Int.reduceToNat, Int.reducePow, Nat.reducePow] | refine wki ?_ | refine wqn ?_ | refine vpx [] ?_)
  refine vf_of (nat_trim xs hx (by omega)) ?_; repeat (first | simp only [go_sem] | simp (disch := first | exact oa | fail) only [AX, Int.reduceToNat, Int.reducePow, Nat.reducePow] | refine wki ?_ | refine wqn ?_ | refine vpx [] ?_)
  refine vf_of (nat_trim ys hy (by omega)) ?_; repeat (first | simp only [go_sem] | simp (disch := first | exact oa | fail) only [AX, Int.reduceToNat, Int.reducePow, Nat.reducePow] | refine wki ?_ | refine wqn ?_ | refine vpx [] ?_)
  by_cases h1 : (lim (wth xs)).length = (lim (wth ys)).length
  · repeat (first | simp only [go_sem] | simp (disch := first | exact oa | fail) only [AX, Int.reduceToNat, Int.reducePow, Nat.reducePow] | refine wki ?_ | refine wqn ?_)
    refine vp_loop_inv (fun s => s.tmp 0 = .sv (natV (lim (wth xs))) /\ s.tmp 1 = .sv (natV (lim (wth ys))) /\ ∃ i : Nat, s.tmp 5 = .sv (.int .i64 ((i : Int) - 1)) /\ i <= (lim (wth xs)).length /\ (lim (wth xs)).drop i = (lim (wth ys)).drop i)
      (fun s => match s.tmp 5 with | .sv (.int _ i) => (i + 1).toNat | _ => 0) ⟨rfl, rfl, (lim (wth xs)).length, rfl, Nat.le_refl _, ?_⟩ ?_
    · rw [List.drop_length, h1, List.drop_length]
    rintro s ⟨g0, g1, i, g5, hi, hd⟩
    rcases Nat.eq_zero_or_pos i with rfl | hi0
    · have e : cmpN (wth xs) (wth ys) = 0 := by
        have := congrArg wth hd
        rw [List.drop_zero, List.drop_zero, wth_lim, wth_lim] at this
        rw [this]
        simp [cmpN]
      rw [e]
      repeat (first | simp only [go_sem, g0, g1, g5] | simp (disch := first | exact oa | fail) only [AX, Int.reduceToNat, Int.reducePow, Nat.reducePow, g0, g1, g5] | refine wki ?_ | refine wqn ?_ | refine vpx [] ?_)
    · repeat (first | simp only [go_sem, g0, g1, g5] | simp (disch := first | exact oa | fail) only [AX, Int.reduceToNat, Int.reducePow, Nat.reducePow, g0, g1, g5] | refine wki ?_ | refine wqn ?_ | refine vpx [] ?_)
      have hdr : ∀ zs : List Nat, i <= zs.length -> zs.drop (i - 1) = zs.getD (i - 1) 0 :: zs.drop i := by
        intro zs hz
        rw [List.drop_eq_getElem_cons (show i - 1 < zs.length by omega), List.getD_eq_getElem?_getD, List.getElem?_eq_getElem (show i - 1 < zs.length by omega), show i - 1 + 1 = i by omega]
        rfl
      rcases Nat.lt_trichotomy ((lim (wth xs)).getD (i - 1) 0) ((lim (wth ys)).getD (i - 1) 0) with hc | hc | hc
      · have := wth_lt_of (okL_lim _) (okL_lim _) h1 (i := i - 1) (by omega) (by rw [show i - 1 + 1 = i by omega]; exact hd) hc
        rw [wth_lim, wth_lim] at this
        have e : cmpN (wth xs) (wth ys) = -1 := by simp [cmpN, this]
        rw [e]
        repeat (first | simp only [go_sem, g0, g1, g5] | simp (disch := first | exact oa | fail) only [AX, Int.reduceToNat, Int.reducePow, Nat.reducePow, g0, g1, g5] | refine wki ?_ | refine wqn ?_ | refine vpx [] ?_)
      · repeat (first | simp only [go_sem, g0, g1, g5] | simp (disch := first | exact oa | fail) only [AX, Int.reduceToNat, Int.reducePow, Nat.reducePow, g0, g1, g5] | refine wki ?_ | refine wqn ?_ | refine vpx [] ?_)
        refine ⟨⟨i - 1, ?_, by omega, ?_⟩, by omega⟩
        · simp only [Int.natCast_sub hi0]
        · rw [hdr _ hi, hdr _ (by omega), hc, hd]
      · have := wth_lt_of (okL_lim _) (okL_lim _) h1.symm (i := i - 1) (by omega) (by rw [show i - 1 + 1 = i by omega]; exact hd.symm) hc
        rw [wth_lim, wth_lim] at this
        have e : cmpN (wth xs) (wth ys) = 1 := by unfold cmpN; rw [if_neg (by omega), if_neg (by omega)]
        rw [e]
        repeat (first | simp only [go_sem, g0, g1, g5] | simp (disch := first | exact oa | fail) only [AX, Int.reduceToNat, Int.reducePow, Nat.reducePow, g0, g1, g5] | refine wki ?_ | refine wqn ?_ | refine vpx [] ?_)
  · by_cases h2 : (lim (wth xs)).length < (lim (wth ys)).length
    · have := lim_length_lt h2
      have e : cmpN (wth xs) (wth ys) = -1 := by simp [cmpN, this]
      rw [e]
      repeat (first | simp only [go_sem] | simp (disch := first | exact oa | fail) only [AX, Int.reduceToNat, Int.reducePow, Nat.reducePow] | refine wki ?_ | refine wqn ?_ | refine vpx [] ?_)
    · have := lim_length_lt (a := wth ys) (b := wth xs) (by omega)
      have e : cmpN (wth xs) (wth ys) = 1 := by unfold cmpN; rw [if_neg (by omega), if_neg (by omega)]
      rw [e]
      repeat (first | simp only [go_sem] | simp (disch := first | exact oa | fail) only [AX, Int.reduceToNat, Int.reducePow, Nat.reducePow] | refine wki ?_ | refine wqn ?_ | refine vpx [] ?_)
end Go.Proofs.YticocojomlfhgaaGreatDoor
namespace Go.Proofs.YticocojomlfhgaaGreatDoor
open Go.Ev
theorem nat_Add (xs ys : List Nat) (hx : okL xs) (hy : okL ys) (hl : xs.length <= 1073741824) (hm : ys.length <= 1073741824) : Go.Ev.Fn CX 136 [natV xs, natV ys] (natV (lim (wth xs + wth ys))) := by
  refine fni Tryz.f136 ?_; unfold Tryz.f136; simp only [Option.get!_some]
  have lx := lim_length_le hx
  have ly := lim_length_le hy
  repeat (first | simp only [go_sem] | simp (disch := first | exact oa | fail) only [AX, Int.reduceToNat, Int.reducePow, Nat.reducePow] | refine wki ?_ | refine wqn ?_ | refine vpx [] ?_)
  refine vf_of (nat_trim xs hx (by omega)) ?_; repeat (first | simp only [go_sem] | simp (disch := first | exact oa | fail) only [AX, Int.reduceToNat, Int.reducePow, Nat.reducePow] | refine wki ?_ | refine wqn ?_ | refine vpx [] ?_)
  refine vf_of (nat_trim ys hy (by omega)) ?_; repeat (first | simp only [go_sem] | simp (disch := first | exact oa | fail) only [AX, Int.reduceToNat, Int.reducePow, Nat.reducePow] | refine wki ?_ | refine wqn ?_ | refine vpx [] ?_)
  refine vc_cut (Mid := fun s => ∃ a b, s.tmp 0 = .sv (natV a) /\ s.tmp 1 = .sv (natV b) /\ okL a /\ okL b /\ b.length <= a.length /\ a.length <= 1073741824 /\ wth a + wth b = wth xs + wth ys) ?_ ?_
  · by_cases h1 : (lim (wth xs)).length < (lim (wth ys)).length
    · repeat (first | simp only [go_sem] | simp (disch := first | exact oa | fail) only [AX, Int.reduceToNat, Int.reducePow, Nat.reducePow] | refine wki ?_ | refine wqn ?_ | refine vpx [] ?_)
      exact ⟨_, _, rfl, rfl, okL_lim _, okL_lim _, by omega, by omega, by rw [wth_lim, wth_lim]; omega⟩
    · repeat (first | simp only [go_sem] | simp (disch := first | exact oa | fail) only [AX, Int.reduceToNat, Int.reducePow, Nat.reducePow] | refine wki ?_ | refine wqn ?_ | refine vpx [] ?_)
      exact ⟨_, _, rfl, rfl, okL_lim _, okL_lim _, by omega, by omega, by rw [wth_lim, wth_lim]⟩
  rintro s ⟨a, b, g0, g1, ha, hb, hab, hla, hsum⟩
  repeat (first | simp only [go_sem, g0, g1] | simp (disch := first | exact oa | fail) only [AX, Int.reduceToNat, Int.reducePow, Nat.reducePow, g0, g1] | refine wki ?_ | refine wqn ?_)
  generalize hg : s.gen 23 = g
  refine vp_loop_inv (fun s' => s'.tmp 0 = .sv (natV a) /\ s'.tmp 1 = .sv (natV b) /\ s'.tmp 5 = .ref 23 g 1 0 (a.length + 1) /\ s'.tmp 24 = .sv (natV a) /\ s'.tmp 25 = .sv (.int .i64 a.length) /\
      ∃ c : List Nat, ∃ i carry : Nat, s'.obj 23 g = some (c.map limb) /\ s'.tmp 6 = .sv (.int .u64 carry) /\ s'.tmp 26 = .sv (.int .i64 i) /\ c.length = a.length + 1 /\ okL c /\ i <= a.length /\ carry <= 1 /\
        wth (c.take i) + 4294967296 ^ i * carry = wth (a.take i) + wth (b.take i))
    (fun s => match s.tmp 26 with | .sv (.int _ i) => a.length - i.toNat | _ => 0) ?_ ?_
  · refine ⟨g0, g1, rfl, rfl, rfl, List.replicate (a.length + 1) 0, 0, 0, ?_, rfl, rfl, List.length_replicate .., okL_replicate _, by omega, by omega, rfl⟩
    simp [St.put, St.new, hg]
  rintro s' ⟨i0, i1, i5, i24, i25, c, i, carry, iO, i6, i26, hc, hok, hi, hcar, hw⟩
  by_cases hend : i = a.length
  · subst hend
    repeat (first | simp only [go_sem, i0, i1, i5, i24, i25, iO, i6, i26] | simp (disch := first | exact oa | fail) only [AX, Int.reduceToNat, Int.reducePow, Nat.reducePow, i0, i1, i5, i24, i25, iO, i6, i26] | refine wki ?_ | refine wqn ?_ | refine vpx [] ?_)
    refine vf_of (fn_natV (nat_trim (c.set a.length carry) (okL_set hok _ _ (by omega)) (by rw [List.length_set]; omega)) (by rw [List.length_set]; omega)) ?_; repeat (first | simp only [go_sem] | simp (disch := first | exact oa | fail) only [AX, Int.reduceToNat, Int.reducePow, Nat.reducePow] | refine wki ?_ | refine wqn ?_ | refine vpx [] ?_)
    have e : wth (c.set a.length carry) = wth xs + wth ys := by
      rw [<- List.take_of_length_le (l := c.set a.length carry) (i := a.length + 1) (by rw [List.length_set]; omega), wth_set_take (by omega), hw, List.take_of_length_le (Nat.le_refl _), List.take_of_length_le hab, hsum]
    rw [e]
  · have h1 := getD_lt ha i
    have h2 := getD_lt hb i
    have key : ∀ x : Nat, x = carry + a.getD i 0 + b.getD i 0 -> wth ((c.set i (x % 4294967296)).take (i + 1)) + 4294967296 ^ (i + 1) * (x / 4294967296) = wth (a.take (i + 1)) + wth (b.take (i + 1)) := by
      intro x hx
      rw [wth_set_take (by omega), wth_take_succ, wth_take_succ]
      have e1 : 4294967296 ^ i * (x % 4294967296) + 4294967296 ^ (i + 1) * (x / 4294967296) = 4294967296 ^ i * x := by
        rw [Nat.pow_succ, Nat.mul_assoc, <- Nat.mul_add, Nat.mod_add_div]
      have e2 : 4294967296 ^ i * x = 4294967296 ^ i * carry + 4294967296 ^ i * a.getD i 0 + 4294967296 ^ i * b.getD i 0 := by
        rw [hx, Nat.mul_add, Nat.mul_add]
      omega
    by_cases hib : i < b.length
    · repeat (first | simp only [go_sem, i0, i1, i5, i24, i25, iO, i6, i26] | simp (disch := first | exact oa | fail) only [AX, Int.reduceToNat, Int.reducePow, Nat.reducePow, i0, i1, i5, i24, i25, iO, i6, i26] | refine wki ?_ | refine wqn ?_ | refine vpx [] ?_)
      exact ⟨⟨c.set i ((carry + a.getD i 0 + b.getD i 0) % 4294967296), i + 1, (carry + a.getD i 0 + b.getD i 0) / 4294967296, rfl, rfl, rfl, by rw [List.length_set]; exact hc, okL_set hok _ _ (by omega), by omega, by omega, key _ rfl⟩, by omega⟩
    · have e0 : b.getD i 0 = 0 := by rw [List.getD_eq_getElem?_getD, List.getElem?_eq_none (by omega)]; rfl
      repeat (first | simp only [go_sem, i0, i1, i5, i24, i25, iO, i6, i26] | simp (disch := first | exact oa | fail) only [AX, Int.reduceToNat, Int.reducePow, Nat.reducePow, i0, i1, i5, i24, i25, iO, i6, i26] | refine wki ?_ | refine wqn ?_ | refine vpx [] ?_)
      exact ⟨⟨c.set i ((carry + a.getD i 0) % 4294967296), i + 1, (carry + a.getD i 0) / 4294967296, rfl, rfl, rfl, by rw [List.length_set]; exact hc, okL_set hok _ _ (by omega), by omega, by omega, key _ (by omega)⟩, by omega⟩
end Go.Proofs.YticocojomlfhgaaGreatDoor
namespace Go.Proofs.YticocojomlfhgaaGreatDoor
open Go.Ev
theorem bits_Add32 (x y c : Nat) (hx : x < 4294967296) (hy : y < 4294967296) (hc : c < 4294967296) :
    Go.Ev.Fn CX 162 [limb x, limb y, limb c] (.tup [limb ((x + y + c) % 4294967296), limb ((x + y + c) / 4294967296)]) := by
  refine fni Tryz.f162 ?_; unfold Tryz.f162; simp only [Option.get!_some]
  repeat (first | simp only [go_sem] | simp (disch := first | exact oa | fail) only [AX, Int.reduceToNat, Int.reducePow, Nat.reducePow] | refine wki ?_ | refine wqn ?_ | refine vpx [] ?_)
theorem bits_Sub32 (x y b : Nat) (hx : x < 4294967296) (hy : y < 4294967296) (hb : b <= 1) :
    Go.Ev.Fn CX 161 [limb x, limb y, limb b] (.tup [limb (((x + (4294967296 - y)) % 4294967296 + (4294967296 - b)) % 4294967296), limb (if x < y + b then 1 else 0)]) := by
  refine fni Tryz.f161 ?_; unfold Tryz.f161; simp only [Option.get!_some]
  have hd : ∃ d, d = ((x + (4294967296 - y)) % 4294967296 + (4294967296 - b)) % 4294967296 := ⟨_, rfl⟩
  obtain ⟨d, hd⟩ := hd
  rw [<- hd, <- sub32_bit hx hy hb hd]
  have hd' : d < 4294967296 := by omega
  have h0 : 4294967295 ^^^ x < 4294967296 := Nat.xor_lt_two_pow (n := 32) (by decide) hx
  have h1 : (4294967295 ^^^ x) &&& y < 4294967296 := Nat.lt_of_le_of_lt Nat.and_le_right hy
  have h2 : x ^^^ y < 4294967296 := Nat.xor_lt_two_pow (n := 32) hx hy
  have h3 : 4294967295 ^^^ (x ^^^ y) < 4294967296 := Nat.xor_lt_two_pow (n := 32) (by decide) h2
  have h4 : (4294967295 ^^^ (x ^^^ y)) &&& d < 4294967296 := Nat.lt_of_le_of_lt Nat.and_le_right hd'
  repeat (first | simp only [go_sem, u32_sub, <- hd] | simp (disch := first | exact oa | fail) only [AX, Int.reduceToNat, Int.reducePow, Nat.reducePow, u32_sub, <- hd] | refine wki ?_ | refine wqn ?_ | refine vpx [] ?_)
theorem bits_Div32 (hi lo y : Nat) (h : hi < y) (hy : y < 4294967296) (hlo : lo < 4294967296) :
    Go.Ev.Fn CX 143 [limb hi, limb lo, limb y] (.tup [limb ((hi * 4294967296 + lo) / y), limb ((hi * 4294967296 + lo) % y)]) := by
  refine fni Tryz.f143 ?_; unfold Tryz.f143; simp only [Option.get!_some]
  have hq : (hi * 4294967296 + lo) / y < 4294967296 := by
    rw [Nat.div_lt_iff_lt_mul (by omega)]
    have : (hi + 1) * 4294967296 <= y * 4294967296 := Nat.mul_le_mul_right _ h
    omega
  have hr : (hi * 4294967296 + lo) % y < 4294967296 := Nat.lt_trans (Nat.mod_lt _ (by omega)) hy
  have hX : ∃ X, hi * 4294967296 + lo = X := ⟨_, rfl⟩
  obtain ⟨X, hX⟩ := hX
  rw [hX] at hq hr ⊢
  generalize hQ : X / y = Q at *
  generalize hR : X % y = R at *
  repeat (first | simp only [go_sem, hX, hQ, hR] | simp (disch := first | exact oa | fail) only [AX, Int.reduceToNat, Int.reducePow, Nat.reducePow, hX, hQ, hR] | refine wki ?_ | refine wqn ?_ | refine vpx [] ?_)
end Go.Proofs.YticocojomlfhgaaGreatDoor
namespace Go.Proofs.YticocojomlfhgaaGreatDoor
open Go.Ev
end Go.Proofs.YticocojomlfhgaaGreatDoor
namespace Go.Proofs.YticocojomlfhgaaGreatDoor
open Go.Ev
theorem getD_set_ne {xs : List Nat} {i j v : Nat} (h : j ≠ i) : (xs.set i v).getD j 0 = xs.getD j 0 := by
  rw [List.getD_eq_getElem?_getD, List.getD_eq_getElem?_getD, List.getElem?_set_ne (fun e => h e.symm)]
theorem limb_mul {v w : Nat} (hv : v < 4294967296) (hw : w < 4294967296) : v * w <= 18446744065119617025 :=
  Nat.le_trans (Nat.mul_le_mul (show v <= 4294967295 by omega) (show w <= 4294967295 by omega)) (by decide)
theorem nat_Mul (xs ys : List Nat) (hx : okL xs) (hy : okL ys) (hl : xs.length <= 1073741824) (hm : ys.length <= 1073741824) :
    Go.Ev.Fn CX 115 [natV xs, natV ys] (natV (lim (wth xs * wth ys))) := by
  refine fni Tryz.f115 ?_; unfold Tryz.f115; simp only [Option.get!_some]
  have lx := lim_length_le hx
  have ly := lim_length_le hy
  repeat (first | simp only [go_sem] | simp (disch := first | exact oa | fail) only [AX, Int.reduceToNat, Int.reducePow, Nat.reducePow] | refine wki ?_ | refine wqn ?_ | refine vpx [] ?_)
  refine vf_of (nat_trim xs hx (by omega)) ?_; repeat (first | simp only [go_sem] | simp (disch := first | exact oa | fail) only [AX, Int.reduceToNat, Int.reducePow, Nat.reducePow] | refine wki ?_ | refine wqn ?_ | refine vpx [] ?_)
  refine vf_of (nat_trim ys hy (by omega)) ?_; repeat (first | simp only [go_sem] | simp (disch := first | exact oa | fail) only [AX, Int.reduceToNat, Int.reducePow, Nat.reducePow] | refine wki ?_ | refine wqn ?_ | refine vpx [] ?_)
  have ha := okL_lim (wth xs)
  have hb := okL_lim (wth ys)
  have va := wth_lim (wth xs)
  have vb := wth_lim (wth ys)
  generalize lim (wth xs) = a at *
  generalize lim (wth ys) = b at *
  refine vp_loop_inv (fun s' => s'.tmp 0 = .sv (natV a) /\ s'.tmp 1 = .sv (natV b) /\ s'.tmp 5 = .ref 20 0 1 0 (a.length + b.length) /\ s'.tmp 21 = .sv (natV a) /\ s'.tmp 22 = .sv (.int .i64 a.length) /\
      ∃ c : List Nat, ∃ i : Nat, s'.obj 20 0 = some (c.map limb) /\ s'.tmp 23 = .sv (.int .i64 i) /\ c.length = a.length + b.length /\ okL c /\ i <= a.length /\
        wth (c.take (i + b.length)) = wth (a.take i) * wth b)
    (fun s => match s.tmp 23 with | .sv (.int _ i) => a.length - i.toNat | _ => 0) ?_ ?_
  · refine ⟨rfl, rfl, rfl, rfl, rfl, List.replicate (a.length + b.length) 0, 0, rfl, rfl, List.length_replicate .., okL_replicate _, by omega, ?_⟩
    rw [List.take_replicate, wth_replicate]; simp [wth]
  rintro s' ⟨i0, i1, i5, i21, i22, c0, i, iO, i23, hc0, hok0, hi, hv⟩
  by_cases hend : i = a.length
  · subst hend
    repeat (first | simp only [go_sem, i0, i1, i5, i21, i22, iO, i23] | simp (disch := first | exact oa | fail) only [AX, Int.reduceToNat, Int.reducePow, Nat.reducePow, i0, i1, i5, i21, i22, iO, i23] | refine wki ?_ | refine wqn ?_ | refine vpx [] ?_)
    refine vf_of (fn_natV (nat_trim c0 hok0 (by omega)) hc0) ?_; repeat (first | simp only [go_sem] | simp (disch := first | exact oa | fail) only [AX, Int.reduceToNat, Int.reducePow, Nat.reducePow] | refine wki ?_ | refine wqn ?_ | refine vpx [] ?_)
    have e : wth c0 = wth xs * wth ys := by
      rw [List.take_of_length_le (by omega), List.take_of_length_le (Nat.le_refl _), va, vb] at hv
      exact hv
    rw [e]
  · have h1 := getD_lt ha i
    repeat (first | simp only [go_sem, i0, i1, i5, i21, i22, iO, i23] | simp (disch := first | exact oa | fail) only [AX, Int.reduceToNat, Int.reducePow, Nat.reducePow, i0, i1, i5, i21, i22, iO, i23] | refine wki ?_ | refine wqn ?_ | refine vpx [] ?_)
    generalize hvv : a.getD i 0 = v at *
    refine vp_loop_inv (fun s' => s'.tmp 0 = .sv (natV a) /\ s'.tmp 1 = .sv (natV b) /\ s'.tmp 5 = .ref 20 0 1 0 (a.length + b.length) /\ s'.tmp 21 = .sv (natV a) /\ s'.tmp 22 = .sv (.int .i64 a.length) /\ s'.tmp 23 = .sv (.int .i64 i) /\
        s'.tmp 6 = .sv (.int .i64 i) /\ s'.tmp 7 = .sv (.int .u32 v) /\ s'.tmp 28 = .sv (natV b) /\ s'.tmp 29 = .sv (.int .i64 b.length) /\
        ∃ c : List Nat, ∃ k carry : Nat, s'.obj 20 0 = some (c.map limb) /\ s'.tmp 30 = .sv (.int .i64 k) /\ s'.tmp 8 = .sv (.int .u64 carry) /\ c.length = a.length + b.length /\ okL c /\ k <= b.length /\ carry < 4294967296 /\
          (∀ j, i + k <= j -> c.getD j 0 = c0.getD j 0) /\ wth (c.take (i + k)) + 4294967296 ^ (i + k) * carry = wth (c0.take (i + k)) + 4294967296 ^ i * (v * wth (b.take k)))
      (fun s => match s.tmp 30 with | .sv (.int _ i) => b.length - i.toNat | _ => 0) ?_ ?_
    · refine ⟨i0, i1, i5, i21, i22, i23, rfl, rfl, rfl, rfl, c0, 0, 0, iO, rfl, rfl, hc0, hok0, by omega, by omega, fun _ _ => rfl, ?_⟩
      simp [wth]
    rintro s2 ⟨j0, j1, j5, j21, j22, j23, j6, j7, j28, j29, c, k, carry, jO, j30, j8, hc, hok, hk, hcar, hsame, hw⟩
    by_cases hend2 : k = b.length
    · subst hend2
      repeat (first | simp only [go_sem, j0, j1, j5, j21, j22, j23, j6, j7, j28, j29, jO, j30, j8] | simp (disch := first | exact oa | fail) only [AX, Int.reduceToNat, Int.reducePow, Nat.reducePow, j0, j1, j5, j21, j22, j23, j6, j7, j28, j29, jO, j30, j8] | refine wki ?_ | refine wqn ?_ | refine vpx [] ?_)
      refine ⟨⟨c.set (i + b.length) carry, i + 1, rfl, rfl, by rw [List.length_set]; exact hc, okL_set hok _ _ hcar, by omega, ?_⟩, by omega⟩
      rw [show i + 1 + b.length = i + b.length + 1 by omega, wth_set_take (by omega), hw, hv, wth_take_succ, hvv, List.take_of_length_le (Nat.le_refl _)]
      rw [Nat.add_mul, Nat.mul_assoc]
    · have h2 := getD_lt hb k
      have h3 := getD_lt hok (i + k)
      have h4 := limb_mul h1 h2
      have hs := hsame (i + k) (Nat.le_refl _)
      generalize hww : b.getD k 0 = w at *
      generalize hu : c.getD (i + k) 0 = u at *
      generalize hp : v * w = p at *
      repeat (first | simp only [go_sem, j0, j1, j5, j21, j22, j23, j6, j7, j28, j29, jO, j30, j8, hww, hu, hp] | simp (disch := first | exact oa | fail) only [AX, Int.reduceToNat, Int.reducePow, Nat.reducePow, j0, j1, j5, j21, j22, j23, j6, j7, j28, j29, jO, j30, j8, hww, hu, hp] | refine wki ?_ | refine wqn ?_ | refine vpx [] ?_)
      refine ⟨⟨c.set (i + k) ((carry + (p + u)) % 4294967296), k + 1, (carry + (p + u)) / 4294967296, rfl, rfl, rfl, by rw [List.length_set]; exact hc, okL_set hok _ _ (by omega), by omega, by omega, fun j hj => (getD_set_ne (by omega)).trans (hsame j (by omega)), ?_⟩, by omega⟩
      rw [show i + (k + 1) = i + k + 1 by omega, wth_set_take (by omega), wth_take_succ c0, <- hs, wth_take_succ b, hww]
      generalize hx : carry + (p + u) = x
      have e1 : 4294967296 ^ (i + k) * (x % 4294967296) + 4294967296 ^ (i + k + 1) * (x / 4294967296) = 4294967296 ^ (i + k) * x := by
        rw [Nat.pow_succ, Nat.mul_assoc, <- Nat.mul_add, Nat.mod_add_div]
      have e2 : 4294967296 ^ (i + k) * x = 4294967296 ^ (i + k) * carry + (4294967296 ^ (i + k) * p + 4294967296 ^ (i + k) * u) := by
        rw [<- hx, Nat.mul_add, Nat.mul_add]
      have e3 : 4294967296 ^ i * (v * (wth (b.take k) + 4294967296 ^ k * w)) = 4294967296 ^ i * (v * wth (b.take k)) + 4294967296 ^ (i + k) * p := by
        rw [Nat.mul_add, Nat.mul_add, <- hp, Nat.pow_add, Nat.mul_left_comm v, <- Nat.mul_assoc (4294967296 ^ i) (4294967296 ^ k)]
      rw [e3]
      omega
end Go.Proofs.YticocojomlfhgaaGreatDoor
namespace Go.Proofs.YticocojomlfhgaaGreatDoor
open Go.Ev
theorem wth_drop {xs : List Nat} {i : Nat} (h : i < xs.length) : wth (xs.drop i) = xs.getD i 0 + 4294967296 * wth (xs.drop (i + 1)) := by
  rw [List.drop_eq_getElem_cons h, wth_cons, List.getD_eq_getElem?_getD, List.getElem?_eq_getElem h]
  rfl
theorem wth_set_drop {xs : List Nat} {i : Nat} (h : i < xs.length) (v : Nat) : wth ((xs.set i v).drop i) = v + 4294967296 * wth (xs.drop (i + 1)) := by
  rw [wth_drop (by rw [List.length_set]; exact h), List.drop_set_of_lt (by omega)]
  simp [List.getD_eq_getElem?_getD, h]
theorem nat_small (xs : List Nat) (b : Nat) (hx : okL xs) (hl : xs.length <= 1073741824) (hb0 : 0 < b) (hb : b < 4294967296) :
    Go.Ev.Fn CX 128 [natV xs, limb b] (.tup [natV (lim (wth xs / b)), limb (wth xs % b)]) := by
  refine fni Tryz.f128 ?_; unfold Tryz.f128; simp only [Option.get!_some]
  repeat (first | simp only [go_sem] | simp (disch := first | exact oa | fail) only [AX, Int.reduceToNat, Int.reducePow, Nat.reducePow] | refine wki ?_ | refine wqn ?_)
  refine vp_loop_inv (fun s' => s'.tmp 0 = .sv (natV xs) /\ s'.tmp 1 = .sv (limb b) /\ s'.tmp 6 = .ref 11 0 1 0 xs.length /\
      ∃ q : List Nat, ∃ i rest : Nat, s'.obj 11 0 = some (q.map limb) /\ s'.tmp 8 = .sv (.int .i64 ((i : Int) - 1)) /\ s'.tmp 7 = .sv (limb rest) /\ q.length = xs.length /\ okL q /\ i <= xs.length /\ rest < b /\
        wth (xs.drop i) = b * wth (q.drop i) + rest)
    (fun s => match s.tmp 8 with | .sv (.int _ i) => (i + 1).toNat | _ => 0) ?_ ?_
  · refine ⟨rfl, rfl, rfl, List.replicate xs.length 0, xs.length, 0, rfl, rfl, rfl, List.length_replicate .., okL_replicate _, by omega, hb0, ?_⟩
    rw [List.drop_length, List.drop_of_length_le (by simp)]
    simp [wth]
  rintro s' ⟨i0, i1, i6, q, i, rest, iO, i8, i7, hq, hok, hi, hrest, hv⟩
  rcases Nat.eq_zero_or_pos i with rfl | hi0
  · repeat (first | simp only [go_sem, i0, i1, i6, iO, i8, i7] | simp (disch := first | exact oa | fail) only [AX, Int.reduceToNat, Int.reducePow, Nat.reducePow, i0, i1, i6, iO, i8, i7] | refine wki ?_ | refine wqn ?_ | refine vpx [] ?_)
    rw [List.drop_zero, List.drop_zero] at hv
    have e1 : wth xs / b = wth q := by
      rw [hv, Nat.mul_add_div hb0, Nat.div_eq_of_lt hrest, Nat.add_zero]
    have e2 : wth xs % b = rest := by
      rw [hv, Nat.mul_add_mod, Nat.mod_eq_of_lt hrest]
    refine vf_of (fn_natV (nat_trim q hok (by omega)) hq) ?_; repeat (first | simp only [go_sem, i0, i1, i6, iO, i8, i7] | simp (disch := first | exact oa | fail) only [AX, Int.reduceToNat, Int.reducePow, Nat.reducePow, i0, i1, i6, iO, i8, i7] | refine wki ?_ | refine wqn ?_ | refine vpx [] ?_)
    rw [e1, e2]
    exact ⟨rfl, rfl⟩
  · have h1 := getD_lt hx (i - 1)
    have h5 : (((i - 1 : Nat) : Int)) = (i : Int) - 1 := by omega
    repeat (first | simp only [go_sem, i0, i1, i6, iO, i8, i7] | simp (disch := first | exact oa | fail) only [AX, Int.reduceToNat, Int.reducePow, Nat.reducePow, i0, i1, i6, iO, i8, i7] | refine wki ?_ | refine wqn ?_ | refine vpx [] ?_)
    have hq0 : (rest * 4294967296 + xs.getD (i - 1) 0) / b < 4294967296 := by
      rw [Nat.div_lt_iff_lt_mul hb0]
      have : (rest + 1) * 4294967296 <= b * 4294967296 := Nat.mul_le_mul_right _ hrest
      omega
    have hr0 := Nat.mod_lt (rest * 4294967296 + xs.getD (i - 1) 0) hb0
    refine vf_of (bits_Div32 rest (xs.getD (i - 1) 0) b hrest hb h1) ?_; repeat (first | simp only [go_sem, i0, i1, i6, iO, i8, i7] | simp (disch := first | exact oa | fail) only [AX, Int.reduceToNat, Int.reducePow, Nat.reducePow, i0, i1, i6, iO, i8, i7] | refine wki ?_ | refine wqn ?_ | refine vpx [] ?_)
    refine ⟨⟨q.set (i - 1) ((rest * 4294967296 + xs.getD (i - 1) 0) / b), i - 1, (rest * 4294967296 + xs.getD (i - 1) 0) % b, rfl, rfl, rfl, by rw [List.length_set]; exact hq, okL_set hok _ _ hq0, by omega, hr0, ?_⟩, by omega⟩
    rw [wth_set_drop (by omega), wth_drop (by omega), show i - 1 + 1 = i by omega, hv]
    have e1 := Nat.div_add_mod (rest * 4294967296 + xs.getD (i - 1) 0) b
    generalize (rest * 4294967296 + xs.getD (i - 1) 0) / b = Q at *
    generalize (rest * 4294967296 + xs.getD (i - 1) 0) % b = R at *
    rw [Nat.mul_add b, <- Nat.mul_assoc b, Nat.mul_comm b 4294967296, Nat.mul_assoc]
    omega
end Go.Proofs.YticocojomlfhgaaGreatDoor
namespace Go.Proofs.YticocojomlfhgaaGreatDoor
open Go.Ev
def guessN (u v : Nat) : Nat := min 4294967295 (u / v)
theorem guess_le (u v : Nat) : guessN u v <= 4294967295 := Nat.min_le_left _ _
theorem guess_ge {u v q : Nat} (hv : 0 < v) (hq : q <= 4294967295) (h : q * v <= u) : q <= guessN u v :=
  Nat.le_min.2 ⟨hq, (Nat.le_div_iff_mul_le hv).2 h⟩
theorem guess_lt {u v q : Nat} (hv : 0 < v) (h : u < q * v) : guessN u v <= q - 1 :=
  Nat.le_trans (Nat.min_le_right _ _) (Nat.le_sub_one_of_lt ((Nat.div_lt_iff_lt_mul hv).2 h))
theorem guess_parts {q r b1 b2 X low U V : Nat} (hU : X * 4294967296 + low = U) (hV : b1 * 4294967296 + b2 = V) (e : q * b1 + r = X) :
    q * V + (r * 4294967296 + low) = U + q * b2 := by
  subst hU hV e
  rw [Nat.mul_add, Nat.add_mul, <- Nat.mul_assoc]
  generalize q * b1 = a
  generalize q * b2 = b
  omega
theorem guess_first {b1 b2 X low U V Q R : Nat} (hU : X * 4294967296 + low = U) (hV : b1 * 4294967296 + b2 = V) (hlo : low < 4294967296) (hV0 : 0 < V) (hQR : b1 * Q + R = X) (hR : R < b1) : guessN U V <= Q := by
  refine guess_lt (q := Q + 1) hV0 ?_
  have e := guess_parts (q := Q) (r := R) hU hV (by rw [Nat.mul_comm]; exact hQR)
  rw [Nat.add_mul]
  generalize Q * V = a at *
  generalize Q * b2 = b at *
  generalize b1 * Q = c at *
  omega
theorem guess_step {q r b1 X : Nat} (e : q * b1 + r = X) (h : 1 <= q) : (q - 1) * b1 + (r + b1) = X := by
  obtain ⟨q', rfl⟩ : ∃ q', q = q' + 1 := ⟨q - 1, by omega⟩
  rw [Nat.add_sub_cancel]
  rw [Nat.add_mul, Nat.one_mul] at e
  omega
theorem guess_end {q r b1 b2 X low U V : Nat} (hU : X * 4294967296 + low = U) (hV : b1 * 4294967296 + b2 = V) (hV0 : 0 < V) (hb2 : b2 < 4294967296) (e : q * b1 + r = X) (hq : q <= 4294967295)
    (h : 4294967296 <= r \/ q * b2 <= r * 4294967296 + low) : q <= guessN U V := by
  refine guess_ge hV0 hq ?_
  have e1 := guess_parts hU hV e
  have h6 : q * b2 <= 18446744065119617025 := limb_mul (by omega) hb2
  generalize q * V = a at *
  generalize q * b2 = b at *
  omega
theorem guess_more {q r b1 b2 X low U V : Nat} (hU : X * 4294967296 + low = U) (hV : b1 * 4294967296 + b2 = V) (hV0 : 0 < V) (e : q * b1 + r = X)
    (h : r * 4294967296 + low < q * b2) : guessN U V <= q - 1 := by
  refine guess_lt hV0 ?_
  have e1 := guess_parts hU hV e
  generalize q * V = a at *
  generalize q * b2 = b at *
  omega
theorem guess_small {q r b1 X high mid : Nat} (hX : high * 4294967296 + mid = X) (h1 : high <= b1) (hm : mid < 4294967296) (e : q * b1 + r = X) (hr : 4294967296 <= r) : q <= 4294967295 := by
  rcases Nat.lt_or_ge 4294967295 q with h3 | h3
  · have h4 : 4294967296 * b1 <= q * b1 := Nat.mul_le_mul_right _ h3
    generalize q * b1 = a at *
    omega
  · exact h3
theorem guess_fn (high mid low b1 b2 : Nat) (h1 : high <= b1) (hb : b1 < 4294967296) (hb' : 2147483648 <= b1) (hm : mid < 4294967296) (hlo : low < 4294967296) (hb2 : b2 < 4294967296) :
    Go.Ev.Fn CX 146 [limb high, limb mid, limb low, limb b1, limb b2] (.int .u64 (guessN ((high * 4294967296 + mid) * 4294967296 + low) (b1 * 4294967296 + b2))) := by
  refine fni Tryz.f146 ?_; unfold Tryz.f146; simp only [Option.get!_some]
  have hX : ∃ X, high * 4294967296 + mid = X := ⟨_, rfl⟩
  obtain ⟨X, hX⟩ := hX
  have hX1 : X < 18446744073709551616 := by omega
  rw [hX]
  have hU : ∃ U, X * 4294967296 + low = U := ⟨_, rfl⟩
  obtain ⟨U, hU⟩ := hU
  have hV : ∃ V, b1 * 4294967296 + b2 = V := ⟨_, rfl⟩
  obtain ⟨V, hV⟩ := hV
  have hV0 : 0 < V := by omega
  rw [hU, hV]
  have hq0 : X / b1 <= 4294967297 := by
    have h : X < 4294967298 * b1 := by omega
    exact Nat.le_of_lt_succ ((Nat.div_lt_iff_lt_mul (k := b1) (by omega)).2 h)
  have hr0 : X % b1 < b1 := Nat.mod_lt _ (by omega)
  have hqr := Nat.div_add_mod X b1
  generalize hQ : X / b1 = Q at *
  generalize hR : X % b1 = R at *
  have hT0 := guess_first hU hV hlo hV0 hqr hr0
  have hT1 := guess_le U V
  generalize hT : guessN U V = T at *
  repeat (first | simp only [go_sem, hX, hQ, hR] | simp (disch := first | exact oa | fail) only [AX, Int.reduceToNat, Int.reducePow, Nat.reducePow, hX, hQ, hR] | refine wki ?_ | refine wqn ?_ | refine vpx [] ?_)
  refine vp_loop_inv (fun s' => s'.tmp 2 = .sv (limb low) /\ s'.tmp 3 = .sv (limb b1) /\ s'.tmp 4 = .sv (limb b2) /\
      ∃ q r : Nat, s'.tmp 12 = .sv (.int .u64 q) /\ s'.tmp 13 = .sv (.int .u64 r) /\ q * b1 + r = X /\ r < 4294967296 /\ T <= q /\ q <= 4294967297)
    (fun s => match s.tmp 12 with | .sv (.int _ i) => i.toNat | _ => 0) ?_ ?_
  · exact ⟨rfl, rfl, rfl, Q, R, rfl, rfl, by rw [Nat.mul_comm]; exact hqr, by omega, hT0, hq0⟩
  rintro s' ⟨i2, i3, i4, q, r, i12, i13, e, hr, hTq, hq⟩
  have fin : 1 <= q -> 4294967296 <= r + b1 -> T <= q - 1 -> q - 1 = T := by
    intro hq1 hrB hl
    have e2 := guess_step e hq1
    have := guess_end hU hV hV0 hb2 e2 (guess_small hX h1 hm e2 hrB) (.inl hrB)
    rw [hT] at this
    omega
  by_cases hqB : 4294967296 <= q
  · have e2 := guess_step e (by omega)
    by_cases hrB : 4294967296 <= r + b1
    · have h5 := fin (by omega) hrB (by omega)
      clear fin e e2 hU hV hqr
      repeat (first | simp only [go_sem, i2, i3, i4, i12, i13] | simp (disch := first | exact oa | fail) only [AX, Int.reduceToNat, Int.reducePow, Nat.reducePow, i2, i3, i4, i12, i13] | refine wki ?_ | refine wqn ?_ | refine vpx [] ?_)
      rw [h5]
    · clear fin e hU hV hqr
      repeat (first | simp only [go_sem, i2, i3, i4, i12, i13] | simp (disch := first | exact oa | fail) only [AX, Int.reduceToNat, Int.reducePow, Nat.reducePow, i2, i3, i4, i12, i13] | refine wki ?_ | refine wqn ?_ | refine vpx [] ?_)
      exact ⟨⟨q - 1, r + b1, rfl, rfl, e2, by omega, by omega, by omega⟩, by omega⟩
  · have hp : q * b2 <= 18446744065119617025 := limb_mul (by omega) hb2
    have hub' := guess_end hU hV hV0 hb2 e (by omega)
    have hlb' := guess_more hU hV hV0 e
    rw [hT] at hub' hlb'
    generalize hP : q * b2 = P at *
    have hC : ∃ C, r * 4294967296 + low = C := ⟨_, rfl⟩
    obtain ⟨C, hC⟩ := hC
    have hj : bitsSV .or .u64 ((r * 4294967296 : Nat) : Int) (low : Int) = some (.int .u64 (C : Int)) := by
      rw [b_join (by omega) hlo, hC]
    rw [hC] at hub' hlb'
    by_cases hc : C < P
    · have hq1 : 1 <= q := by
        rcases Nat.eq_zero_or_pos q with rfl | h
        · rw [Nat.zero_mul] at hP; omega
        · exact h
      have hl := hlb' hc
      have e2 := guess_step e hq1
      by_cases hrB : 4294967296 <= r + b1
      · have h5 := fin hq1 hrB hl
        clear fin hub' hlb' e e2 hU hV hqr hC
        repeat (first | simp only [go_sem, i2, i3, i4, i12, i13, hP, hj] | simp (disch := first | exact oa | fail) only [AX, Int.reduceToNat, Int.reducePow, Nat.reducePow, i2, i3, i4, i12, i13, hP, hj] | refine wki ?_ | refine wqn ?_ | refine vpx [] ?_)
        rw [h5]
      · clear fin hub' hlb' e hU hV hqr hC
        repeat (first | simp only [go_sem, i2, i3, i4, i12, i13, hP, hj] | simp (disch := first | exact oa | fail) only [AX, Int.reduceToNat, Int.reducePow, Nat.reducePow, i2, i3, i4, i12, i13, hP, hj] | refine wki ?_ | refine wqn ?_ | refine vpx [] ?_)
        exact ⟨⟨q - 1, r + b1, rfl, rfl, e2, by omega, by omega, by omega⟩, by omega⟩
    · have h5 := hub' (.inr (by omega))
      clear fin hub' hlb' e hU hV hqr hC
      repeat (first | simp only [go_sem, i2, i3, i4, i12, i13, hP, hj] | simp (disch := first | exact oa | fail) only [AX, Int.reduceToNat, Int.reducePow, Nat.reducePow, i2, i3, i4, i12, i13, hP, hj] | refine wki ?_ | refine wqn ?_ | refine vpx [] ?_)
      rw [Nat.le_antisymm h5 hTq]
end Go.Proofs.YticocojomlfhgaaGreatDoor
namespace Go.Proofs.YticocojomlfhgaaGreatDoor
open Go.Ev
def blen (x : Nat) : Nat := if x = 0 then 0 else x.log2 + 1
def tabOk (s : ByteArray) : Bool := (List.range 256).all fun i => match s[i]? with
  | some b => b.toNat == blen i
  | none => false
theorem vo_index_tab {C : Cx} {soft : Bool} {ops : Array Oper} {l : List Oper} {st : St} {Q : St -> Prop} {dst : Option Nat} {ty t : TypeId} {pos : String} {af : Array Edge} {s : ByteArray} {x : Operand} {k : IntKind} {i : Nat}
    (hu : C.P.underlying t = some .string) (hs : tabOk s = true) (hx : st.eval x = .sv (.int k (i : Int))) (hi : i < 256) (h : WO C soft ops l (st.putO dst (.sv (.int .u8 (blen i : Nat)))) Q) :
    WO C soft ops (⟨dst, .index t (.const (.string s)) x, ty, pos, af, none⟩ :: l) st Q := by
  rw [vo_index]
  have h1 := List.all_eq_true.1 hs i (List.mem_range.2 hi)
  have e : val C.P st (.index t (.const (.string s)) x) = some (.sv (.int .u8 (blen i : Nat))) := by
    have e0 : st.eval (.const (.string s)) = .sv (.str s) := rfl
    simp only [val, hx, e0, natTV, hu]
    rw [if_pos (by omega)]
    simp only [Int.toNat_natCast]
    split at h1
    · rename_i b hb
      rw [hb]
      simp only
      rw [<- eq_of_beq h1]
    · cases h1
  rw [e]
  exact h
theorem blen_shift {x k : Nat} (h : 2 ^ k <= x) : blen x = k + blen (x / 2 ^ k) := by
  have hp : 0 < 2 ^ k := Nat.pow_pos (by omega)
  have h0 : x ≠ 0 := by omega
  have h1 : x / 2 ^ k ≠ 0 := by
    have := Nat.div_pos h hp
    omega
  unfold blen
  rw [if_neg h0, if_neg h1]
  have e : x.log2 = k + (x / 2 ^ k).log2 := by
    have h2 := (Nat.le_log2 h0).2 h
    refine (Nat.log2_eq_iff h0).2 ⟨?_, ?_⟩
    · have := Nat.log2_self_le h1
      rw [Nat.pow_add]
      calc 2 ^ k * 2 ^ (x / 2 ^ k).log2 <= 2 ^ k * (x / 2 ^ k) := Nat.mul_le_mul_left _ this
        _ <= x := Nat.mul_div_le _ _
    · have := Nat.lt_log2_self (n := x / 2 ^ k)
      rw [Nat.div_lt_iff_lt_mul hp] at this
      rw [show k + (x / 2 ^ k).log2 + 1 = (x / 2 ^ k).log2 + 1 + k by omega, Nat.pow_add]
      exact this
  omega
theorem blen_le {x k : Nat} (h : x < 2 ^ k) : blen x <= k := by
  unfold blen
  split
  · omega
  · rename_i h0
    have := (Nat.log2_lt h0).2 h
    omega
theorem bits_Len32 (x : Nat) (hx : x < 4294967296) : Go.Ev.Fn CX 160 [limb x] (.int .i64 (blen x : Nat)) := by
  refine fni Tryz.f160 ?_; unfold Tryz.f160; simp only [Option.get!_some]
  repeat (first | simp only [go_sem] | simp (disch := first | exact oa | fail) only [AX, Int.reduceToNat, Int.reducePow, Nat.reducePow] | refine wki ?_ | refine wqn ?_ | refine vpx [] ?_)
  refine vc_cut (Mid := fun s => ∃ y m : Nat, s.tmp 0 = .sv (limb y) /\ s.tmp 2 = .sv (.int .i64 m) /\ blen x = m + blen y /\ y < 65536 /\ m <= 16) ?_ ?_
  · by_cases h : 65536 <= x
    · repeat (first | simp only [go_sem] | simp (disch := first | exact oa | fail) only [AX, Int.reduceToNat, Int.reducePow, Nat.reducePow] | refine wki ?_ | refine wqn ?_ | refine vpx [] ?_)
      exact ⟨x / 65536, 16, rfl, rfl, blen_shift (k := 16) h, by omega, by omega⟩
    · repeat (first | simp only [go_sem] | simp (disch := first | exact oa | fail) only [AX, Int.reduceToNat, Int.reducePow, Nat.reducePow] | refine wki ?_ | refine wqn ?_ | refine vpx [] ?_)
      exact ⟨x, 0, rfl, rfl, by omega, by omega, by omega⟩
  rintro s ⟨y, m, g0, g2, hb, hy, hm⟩
  repeat (first | simp only [go_sem, g0, g2] | simp (disch := first | exact oa | fail) only [AX, Int.reduceToNat, Int.reducePow, Nat.reducePow, g0, g2] | refine wki ?_ | refine wqn ?_ | refine vpx [] ?_)
  refine vc_cut (Mid := fun s => ∃ y m : Nat, s.tmp 0 = .sv (limb y) /\ s.tmp 2 = .sv (.int .i64 m) /\ blen x = m + blen y /\ y < 256 /\ m <= 24) ?_ ?_
  · by_cases h : 256 <= y
    · repeat (first | simp only [go_sem, g0, g2] | simp (disch := first | exact oa | fail) only [AX, Int.reduceToNat, Int.reducePow, Nat.reducePow, g0, g2] | refine wki ?_ | refine wqn ?_ | refine vpx [] ?_)
      exact ⟨y / 256, m + 8, rfl, rfl, by rw [hb, blen_shift (k := 8) h, Nat.add_assoc], by omega, by omega⟩
    · repeat (first | simp only [go_sem, g0, g2] | simp (disch := first | exact oa | fail) only [AX, Int.reduceToNat, Int.reducePow, Nat.reducePow, g0, g2] | refine wki ?_ | refine wqn ?_ | refine vpx [] ?_)
      exact ⟨y, m, rfl, rfl, hb, by omega, by omega⟩
  clear g0 g2 hb hy hm
  rintro s ⟨y, m, g0, g2, hb, hy, hm⟩
  repeat (first | simp only [go_sem, g0, g2] | simp (disch := first | exact oa | fail) only [AX, Int.reduceToNat, Int.reducePow, Nat.reducePow, g0, g2] | refine wki ?_ | refine wqn ?_ | refine vpx [] ?_)
  refine vo_index_tab (i := y) (by kernel_rfl) (by kernel_rfl) rfl hy ?_
  have hbl : blen y <= 8 := blen_le (k := 8) hy
  repeat (first | simp only [go_sem, g0, g2] | simp (disch := first | exact oa | fail) only [AX, Int.reduceToNat, Int.reducePow, Nat.reducePow, g0, g2] | refine wki ?_ | refine wqn ?_ | refine vpx [] ?_)
  rw [hb]
theorem bits_LeadingZeros32 (x : Nat) (hx : x < 4294967296) : Go.Ev.Fn CX 144 [limb x] (.int .i64 ((32 - blen x : Nat) : Int)) := by
  refine fni Tryz.f144 ?_; unfold Tryz.f144; simp only [Option.get!_some]
  have hbl : blen x <= 32 := blen_le (k := 32) hx
  repeat (first | simp only [go_sem] | simp (disch := first | exact oa | fail) only [AX, Int.reduceToNat, Int.reducePow, Nat.reducePow] | refine wki ?_ | refine wqn ?_ | refine vpx [] ?_)
  refine vf_of (bits_Len32 x hx) ?_; repeat (first | simp only [go_sem] | simp (disch := first | exact oa | fail) only [AX, Int.reduceToNat, Int.reducePow, Nat.reducePow] | refine wki ?_ | refine wqn ?_ | refine vpx [] ?_)
  rw [Int.natCast_sub hbl]
  rfl
end Go.Proofs.YticocojomlfhgaaGreatDoor
namespace Go.Ev
def natP (l : List UInt8) : Option Nat := if l = [] \/ 400 < l.length \/ digs l = false then none else some (natD l)
def frontL (c : UInt8) (l : List UInt8) : List UInt8 := l.takeWhile (· != c)
def backL (c : UInt8) (l : List UInt8) : List UInt8 := (l.dropWhile (· != c)).tail
theorem front_back {c : UInt8} {a b : List UInt8} (h : ∀ x ∈ a, x ≠ c) : frontL c (a ++ c :: b) = a /\ backL c (a ++ c :: b) = b := by
  unfold frontL backL
  induction a with
  | nil => simp
  | cons x a ih =>
    have hx : (x != c) = true := by simpa using h x List.mem_cons_self
    obtain ⟨h1, h2⟩ := ih fun y hy => h y (List.mem_cons_of_mem _ hy)
    rw [List.cons_append, List.takeWhile_cons, List.dropWhile_cons, hx]
    simp only [if_true]
    exact ⟨by rw [h1], h2⟩
theorem front_all {c : UInt8} {a : List UInt8} (h : ∀ x ∈ a, x ≠ c) : frontL c a = a /\ backL c a = [] := by
  unfold frontL backL
  induction a with
  | nil => simp
  | cons x a ih =>
    have hx : (x != c) = true := by simpa using h x List.mem_cons_self
    obtain ⟨h1, h2⟩ := ih fun y hy => h y (List.mem_cons_of_mem _ hy)
    rw [List.takeWhile_cons, List.dropWhile_cons, hx]
    simp only [if_true]
    exact ⟨by rw [h1], h2⟩
def negP (l : List UInt8) : Bool := l.head? == some 45
def absP (l : List UInt8) : List UInt8 := if negP l then l.tail else l
def decP (l : List UInt8) : Option Rat :=
  if (absP l).contains 46 then
    if frontL 46 (absP l) = [] then none else
    match natP (backL 46 (absP l)), natP (frontL 46 (absP l) ++ backL 46 (absP l)) with
    | some _, some n => some (mkRat (sgn (negP l) n) (10 ^ (backL 46 (absP l)).length))
    | _, _ => none
  else
    match natP (frontL 47 (absP l)), natP (if (absP l).contains 47 then backL 47 (absP l) else [49]) with
    | some n, some d => if d = 0 then none else some (mkRat (sgn (negP l) n) d)
    | _, _ => none
def isPM (b : UInt8) : Bool := b == 43 || b == 45
def expP (l : List UInt8) : Option Int :=
  if l.length - (l.dropWhile isPM).length > 1 \/ (l.dropWhile isPM).length < 1 \/ (l.dropWhile isPM).length > 2 \/ digs (l.dropWhile isPM) = false then none else
  if natD (l.dropWhile isPM) <= 30 then some (if l.head? = some 45 then - (natD (l.dropWhile isPM) : Int) else (natD (l.dropWhile isPM) : Int)) else none
def tenR (k : Int) : Rat := if k < 0 then 1 / (10 : Rat) ^ k.natAbs else (10 : Rat) ^ k.natAbs
def numP (l : List UInt8) : Nat × Rat :=
  if 60 < l.length then (3, 0) else
  if l.contains 101 then
    match decP (frontL 101 l), expP (backL 101 l) with
    | some q, some k => if l.contains 47 then (2, 0) else (0, q * tenR k)
    | _, _ => (2, 0)
  else match decP l with
    | some q => (0, q)
    | none => (2, 0)
theorem contains_false {l : List UInt8} {c : UInt8} (h : ∀ b ∈ l, b ≠ c) : l.contains c = false := by
  rw [List.contains_eq_mem]
  simp
  intro hc
  exact h c hc rfl
def gapB (b : UInt8) : Bool := b == 32 || b == 44 || b == 10
def toks : List UInt8 -> List UInt8 -> List (List UInt8)
  | cur, [] => if cur = [] then [] else [cur.reverse]
  | cur, b :: r => if gapB b then (if cur = [] then toks [] r else cur.reverse :: toks [] r) else toks (b :: cur) r
def plainL : Bool -> List UInt8 -> List UInt8
  | _, [] => []
  | off, b :: r => if b == 10 then 10 :: plainL false r else if off || b == 35 then plainL true r else b :: plainL false r
def runP : List (List UInt8) -> Nat × List Rat
  | [] => (0, [])
  | t :: r => match numP t with
    | (0, q) => match runP r with
      | (0, l) => (0, q :: l)
      | (e, _) => (e, [])
    | (e, _) => (e, [])
def parseP (l : List UInt8) : Nat × List Rat :=
  match runP (toks [] (plainL false l)) with
  | (0, x) => if 256 < x.length then (3, []) else (0, x)
  | (e, _) => (e, [])
def joinW : List (List UInt8) -> List UInt8
  | [] => []
  | [t] => t
  | t :: u :: r => t ++ 32 :: joinW (u :: r)
theorem join_cons (t : List UInt8) (r : List (List UInt8)) : joinW (t :: r) = t ++ (r.map fun x => [32] ++ x).flatten := by
  induction r generalizing t with
  | nil => simp [joinW]
  | cons u r ih => rw [joinW, ih u]; simp

end Go.Ev
namespace Go.Proofs.YticocojomlfhgaaGreatDoor
open Go.Ev
theorem idxB_bs {l : List UInt8} {i : Nat} : idxB (bs l) i = (l[i]?).map (fun b => .sv (.int .u8 (b.toNat : Int))) := by
  unfold idxB
  rw [bs_get]
  cases l[i]? <;> rfl
theorem mk_bs {l : List UInt8} : ByteArray.mk l.toArray = bs l := _root_.id rfl
theorem beq_nil {α : Type} [BEq α] {a : α} {l : List α} : ((a :: l) == []) = false := _root_.id rfl
theorem nil_beq {α : Type} [BEq α] : (([] : List α) == []) = true := _root_.id rfl
theorem u8_back (b : UInt8) : ((b.toNat : Int)).toNat.toUInt8 = b := by simp
theorem index_cases (c : UInt8) (l : List UInt8) : (l.contains c = false /\ Lib.indexByte l c = -1 /\ frontL c l = l /\ backL c l = []) \/
    ∃ i : Nat, l.contains c = true /\ Lib.indexByte l c = (i : Int) /\ i < l.length /\ l.take i = frontL c l /\ l.drop (i + 1) = backL c l := by
  induction l with
  | nil => exact .inl ⟨rfl, rfl, rfl, rfl⟩
  | cons b l ih =>
    by_cases hb : b = c
    · subst hb
      refine .inr ⟨0, by simp, ?_, by simp, by simp [frontL], by simp [backL]⟩
      unfold Lib.indexByte
      simp
    · have hb' : (b == c) = false := by simpa using hb
      have hn : (b != c) = true := by simpa using hb
      have hcb : (c == b) = false := by simpa using fun e : c = b => hb e.symm
      have hf : frontL c (b :: l) = b :: frontL c l := by unfold frontL; rw [List.takeWhile_cons, hn]; rfl
      have hk : backL c (b :: l) = backL c l := by unfold backL; rw [List.dropWhile_cons, hn]; rfl
      have hc : (b :: l).contains c = l.contains c := by rw [List.contains_cons, hcb, Bool.false_or]
      rcases ih with ⟨h1, h2, h3, h4⟩ | ⟨i, h1, h2, h3, h4, h5⟩
      · refine .inl ⟨hc.trans h1, ?_, by rw [hf, h3], hk.trans h4⟩
        unfold Lib.indexByte
        simp [hb', h2]
      · refine .inr ⟨i + 1, hc.trans h1, ?_, by simpa using h3, by rw [hf, List.take_succ_cons, h4], by rw [hk, List.drop_succ_cons, h5]⟩
        unfold Lib.indexByte
        have : ((i : Int) == -1) = false := by rw [beq_eq_false_iff_ne]; omega
        simp only [hb', h2, this, Bool.false_eq_true, if_false]
        omega
structure StrCx (C : Cx) : Prop where
  P : C.P = Tryz.prog
  good : C.good = good
  x1 : ∀ s c, C.X 81 [.sv (.str s), .sv (.int .u8 c)] = some (.sv (.int .i64 (Lib.indexByte s.data.toList c.toNat.toUInt8)), List.replicate 2 none)
  x2 : ∀ s c, C.X 150 [.sv (.str s), .sv (.int .u8 c)] = some (.sv (.int .i64 (Lib.countByte s.data.toList c.toNat.toUInt8)), List.replicate 2 none)
  n1 : ∀ ars, C.X 55 ars = none
  n2 : ∀ ars, C.X 132 ars = none
  n3 : ∀ ars, C.X 114 ars = none
  n4 : ∀ ars, C.X 131 ars = none
  n5 : ∀ ars, C.X 105 ars = none
  n6 : ∀ ars, C.X 72 ars = none
theorem CB_str : StrCx CB := ⟨rfl, rfl, fun _ _ => rfl, fun _ _ => rfl, fun _ => rfl, fun _ => rfl, fun _ => rfl, fun _ => rfl, fun _ => rfl, fun _ => rfl⟩
theorem CX_str : StrCx CX := ⟨rfl, rfl, fun _ _ => rfl, fun _ _ => rfl, fun _ => rfl, fun _ => rfl, fun _ => rfl, fun _ => rfl, fun _ => rfl, fun _ => rfl⟩
section
variable {C : Cx}
theorem x_index (h : StrCx C) (s : ByteArray) (c : UInt8) : Go.Ev.Fn C 81 [.str s, .int .u8 (c.toNat : Int)] (.int .i64 (Lib.indexByte s.data.toList c)) := by
  refine ⟨1, List.replicate 2 none, ?_⟩
  have := h.x1 s (c.toNat : Int)
  rw [u8_back] at this
  show (match C.X _ _ with | some r => some r | none => _) = _
  rw [show ([SV.str s, SV.int .u8 (c.toNat : Int)].map Arg.sv) = [.sv (.str s), .sv (.int .u8 (c.toNat : Int))] from rfl, this]
theorem x_count (h : StrCx C) (s : ByteArray) (c : UInt8) : Go.Ev.Fn C 150 [.str s, .int .u8 (c.toNat : Int)] (.int .i64 (Lib.countByte s.data.toList c)) := by
  refine ⟨1, List.replicate 2 none, ?_⟩
  have := h.x2 s (c.toNat : Int)
  rw [u8_back] at this
  show (match C.X _ _ with | some r => some r | none => _) = _
  rw [show ([SV.str s, SV.int .u8 (c.toNat : Int)].map Arg.sv) = [.sv (.str s), .sv (.int .u8 (c.toNat : Int))] from rfl, this]
theorem lite_IndexByte (h : StrCx C) (s : ByteArray) (c : UInt8) : Go.Ev.Fn C 55 [.str s, .int .u8 (c.toNat : Int)] (.int .i64 (Lib.indexByte s.data.toList c)) := by
  have hx := x_index h s c
  obtain ⟨P, X, mu, gd⟩ := C
  obtain ⟨rfl, rfl, _, _, n1, n2, n3, n4, n5, n6⟩ := h
  refine Go.Ev.Fn.intro (fn := Tryz.f55) (body := (Tryz.f55).body.get!) (by kernel_rfl) (by kernel_rfl) (by kernel_rfl) n1 (Nat.le_of_ble_eq_true (by kernel_rfl)) ?_; unfold Tryz.f55; simp only [Option.get!_some]
  simp only [go_sem]
  refine vf_of (hx) ?_; simp only [go_sem]
theorem lite_Index (h : StrCx C) (l : List UInt8) (c : UInt8) : Go.Ev.Fn C 132 [.str (bs l), .str (bs [c])] (.int .i64 (Lib.indexByte l c)) := by
  have hx := lite_IndexByte h (bs l) c
  rw [bs_toList] at hx
  obtain ⟨P, X, mu, gd⟩ := C
  obtain ⟨rfl, rfl, _, _, n1, n2, n3, n4, n5, n6⟩ := h
  refine Go.Ev.Fn.intro (fn := Tryz.f132) (body := (Tryz.f132).body.get!) (by kernel_rfl) (by kernel_rfl) (by kernel_rfl) n2 (Nat.le_of_ble_eq_true (by kernel_rfl)) ?_; unfold Tryz.f132; simp only [Option.get!_some]
  by_cases he : [c] = l
  · subst he
    have : Lib.indexByte [c] c = 0 := by unfold Lib.indexByte; simp
    rw [this]
    repeat (first | simp only [go_sem, bs_size, bs_eq, BEq.rfl] | simp (disch := first | exact oa | fail) only [AX, Int.reduceToNat, Int.reducePow, Nat.reducePow, bs_size, bs_eq, BEq.rfl] | refine wki ?_ | refine wqn ?_ | refine vpx [] ?_)
  · have he : ([c] == l) = false := by simpa using he
    repeat (first | simp only [go_sem, bs_size, vo_ix, idxB_bs, bs_eq, he] | simp (disch := first | exact oa | fail) only [AX, Int.reduceToNat, Int.reducePow, Nat.reducePow, bs_size, vo_ix, idxB_bs, bs_eq, he] | refine wki ?_ | refine wqn ?_ | refine vpx [] ?_ | refine vf_of (by first | exact hx) ?_)
theorem str_Index (h : StrCx C) (l : List UInt8) (c : UInt8) : Go.Ev.Fn C 114 [.str (bs l), .str (bs [c])] (.int .i64 (Lib.indexByte l c)) := by
  have hx := lite_Index h l c
  obtain ⟨P, X, mu, gd⟩ := C
  obtain ⟨rfl, rfl, _, _, n1, n2, n3, n4, n5, n6⟩ := h
  refine Go.Ev.Fn.intro (fn := Tryz.f114) (body := (Tryz.f114).body.get!) (by kernel_rfl) (by kernel_rfl) (by kernel_rfl) n3 (Nat.le_of_ble_eq_true (by kernel_rfl)) ?_; unfold Tryz.f114; simp only [Option.get!_some]
  simp only [go_sem]
  refine vf_of (hx) ?_; simp only [go_sem]
theorem str_Count (h : StrCx C) (l : List UInt8) (c : UInt8) : Go.Ev.Fn C 131 [.str (bs l), .str (bs [c])] (.int .i64 (l.count c)) := by
  have hx := x_count h (bs l) c
  rw [bs_toList, show Lib.countByte l c = l.count c from rfl] at hx
  obtain ⟨P, X, mu, gd⟩ := C
  obtain ⟨rfl, rfl, _, _, n1, n2, n3, n4, n5, n6⟩ := h
  refine Go.Ev.Fn.intro (fn := Tryz.f131) (body := (Tryz.f131).body.get!) (by kernel_rfl) (by kernel_rfl) (by kernel_rfl) n4 (Nat.le_of_ble_eq_true (by kernel_rfl)) ?_; unfold Tryz.f131; simp only [Option.get!_some]
  repeat (first | simp only [go_sem, bs_size, vo_ix, idxB_bs] | simp (disch := first | exact oa | fail) only [AX, Int.reduceToNat, Int.reducePow, Nat.reducePow, bs_size, vo_ix, idxB_bs] | refine wki ?_ | refine wqn ?_ | refine vpx [] ?_)
  refine vf_of (hx) ?_; simp only [go_sem]
theorem lite_Cut (h : StrCx C) (l : List UInt8) (c : UInt8) (hl : l.length <= 1099511627776) : Go.Ev.Fn C 105 [.str (bs l), .str (bs [c])] (.tup [.str (bs (frontL c l)), .str (bs (backL c l)), .bool (l.contains c)]) := by
  have hx := lite_Index h l c
  obtain ⟨P, X, mu, gd⟩ := C
  obtain ⟨rfl, rfl, _, _, n1, n2, n3, n4, n5, n6⟩ := h
  refine Go.Ev.Fn.intro (fn := Tryz.f105) (body := (Tryz.f105).body.get!) (by kernel_rfl) (by kernel_rfl) (by kernel_rfl) n5 (Nat.le_of_ble_eq_true (by kernel_rfl)) ?_; unfold Tryz.f105; simp only [Option.get!_some]
  rcases index_cases c l with ⟨h1, h2, h3, h4⟩ | ⟨i, h1, h2, h3, h4, h5⟩
  · rw [h2] at hx
    rw [h1, h3, h4]
    repeat (first | simp only [go_sem, bs_size] | simp (disch := first | exact oa | fail) only [AX, Int.reduceToNat, Int.reducePow, Nat.reducePow, bs_size] | refine wki ?_ | refine wqn ?_ | refine vpx [] ?_ | refine vf_of (by first | exact hx) ?_)
    rfl
  · rw [h2] at hx
    rw [h1, <- h4, <- h5]
    repeat (first | simp only [go_sem, bs_size, bs_extract] | simp (disch := first | exact oa | fail) only [AX, Int.reduceToNat, Int.reducePow, Nat.reducePow, bs_size, bs_extract] | refine wki ?_ | refine wqn ?_ | refine vpx [] ?_ | refine vf_of (by first | exact hx) ?_)
    rw [List.take_of_length_le (by simp)]
theorem str_Cut (h : StrCx C) (l : List UInt8) (c : UInt8) (hl : l.length <= 1099511627776) : Go.Ev.Fn C 72 [.str (bs l), .str (bs [c])] (.tup [.str (bs (frontL c l)), .str (bs (backL c l)), .bool (l.contains c)]) := by
  have hx := lite_Cut h l c hl
  obtain ⟨P, X, mu, gd⟩ := C
  obtain ⟨rfl, rfl, _, _, n1, n2, n3, n4, n5, n6⟩ := h
  refine Go.Ev.Fn.intro (fn := Tryz.f72) (body := (Tryz.f72).body.get!) (by kernel_rfl) (by kernel_rfl) (by kernel_rfl) n6 (Nat.le_of_ble_eq_true (by kernel_rfl)) ?_; unfold Tryz.f72; simp only [Option.get!_some]
  simp only [go_sem]
  refine vf_of (hx) ?_; simp only [go_sem]
end
end Go.Proofs.YticocojomlfhgaaGreatDoor
