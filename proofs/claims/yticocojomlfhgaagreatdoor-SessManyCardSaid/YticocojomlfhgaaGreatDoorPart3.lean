/- Part 3 of the proof: the evaluator, contracts of functions and their plain laws (joined by program). No condition. -/
import Derived.Test.YticocojomlfhgaaGreatDoorPart2
import Derived.LoopN
import Derived.Scope
import Derived.DataReads
import Derived.Carry
import Derived.Below
import Derived.ChangeSame
import Derived.ProofKit
set_option linter.unusedVariables false
set_option linter.unusedSimpArgs false
set_option maxRecDepth 100000
namespace Go.Ev
open Go.RowKit
section
variable {P : Program} {w0 w : World} {F I : Nat → Prop} {Z : Zy} {N : Nat} {β : Nat → Nat → Nat} {st : St} {a : Act}
theorem step_goes (h : Rel w0 F I Z N β st a w) {call : Callf} (hcall : CallAll P call) {mu : FuncId → Bool} {soft : Bool} {dst : Option Nat} {op : Op} {st' : St} (hd : ∀ d, dst = some d → d < N)
    (hs : step P call mu soft dst op st = some st') (ty : TypeId) (pos : String) (af : Array Edge) (gd : Option (Nat × Bool)) : Goes P a ⟨dst, op, ty, pos, af, gd⟩ w (To w0 F I Z N st') := by
  unfold step at hs
  split at hs
  · exact acall_goes h hcall hd hs ty pos af gd
  · rename_i args tys
    split at hs
    · rename_i s x t t' ha ht
      split at hs
      · rename_i htt
        subst htt
        have hargs : args = #[s, x] := by apply Array.ext'; simpa using ha
        have htys : tys = #[t, t] := by apply Array.ext'; simpa using ht
        subst hargs htys
        cases dst with
        | none => unfold append at hs; split at hs <;> first | (rename_i e; cases e; done) | cases hs | (simp at *)
        | some d => exact (append_runs h (hd d rfl) hs ty pos af gd).goes
      · cases hs
    · cases hs
  · rename_i args tys
    split at hs
    · rename_i s x t ts ha ht
      have hargs : args = #[s, x] := by apply Array.ext'; simpa using ha
      have htys : tys = (t :: ts).toArray := by apply Array.ext'; simpa using ht
      subst hargs htys
      exact (copy_runs h hd hs ts ty pos af gd).goes
    · cases hs
  · split at hs
    · cases hs
    · rename_i hn
      cases dst with
      | some d => simp at hn
      | none => exact (store_runs h hs ty pos af gd).goes
  · cases dst with
    | none => simp [hard] at hs
    | some d =>
      simp only [hard] at hs
      split at hs
      · rename_i cs hz
        cases hs
        exact (alloc_runs h (hd d rfl) hz ty pos af gd).goes
      · cases hs
  · cases dst with
    | none => simp [hard] at hs
    | some d =>
      simp only [hard] at hs
      split at hs
      · rename_i s hx
        split at hs
        · rename_i h1
          cases hs
          exact (box_runs h (hd d rfl) hx h1 ty pos af gd).goes
        · split at hs
          · rename_i ts hts
            cases hs
            exact (boxH_runs h (hd d rfl) hx hts ty pos af gd).goes
          · cases hs
      · cases hs
  · rename_i t n parts
    split at hs
    · split at hs
      · rename_i size cs hl
        cases hs
        obtain ⟨us, e, hrun, hsz, hlen, hall⟩ := lit_run h hl dst ty pos af gd
        refine Runs.goes ⟨_, .inl ⟨_, hrun, β, ?_⟩⟩
        have he : Ext (fun _ => False) w (w.alloc (.cells us e)) := (Ext.refl _ w).alloc _
        refine (h.ext0 he).putO (t := .sv (.sl n cs)) hd ?_ (fun d g e => by simp [TV.id] at e)
        have hcell : ∀ (i : Nat) (s : SV), cs[i]? = some s → us[i]? = some (us.getD i undef) ∧ Rep w (Mut F β st) (us.getD i undef) s := by
          intro i s hi
          obtain ⟨_, v, hv, hr⟩ := hall i s hi
          rw [Array.getD_eq_getD_getElem?, hv]
          exact ⟨rfl, hr⟩
        refine Rep.sl _ _ _ (Nat.le_refl _) cs (fun i => us.getD i undef) (fun hm => ?_) (fun i s hi => ?_) (fun i s hi => ?_)
        · exact absurd (h.mut_lt hm) (Nat.lt_irrefl _)
        · rw [add_mk, Nat.zero_add, World.cell?_alloc_new]
          exact (hcell i s hi).1
        · exact Rep.mono (fun p hp _ => World.cell?_alloc_lt w _ p hp) (fun _ _ hm => hm) (hcell i s hi).2
      · cases hs
    · cases dst with
      | none => simp [hard] at hs
      | some d =>
        simp only [hard] at hs
        split at hs
        · rename_i size cs hl
          cases hs
          obtain ⟨us, e, hrun, hsz, hlen, hall⟩ := lit_run h hl (some d) ty pos af gd
          refine Runs.goes ⟨_, .inl ⟨_, hrun, _, h.new (hd d rfl) hall ⟨n, us, e, by rw [upd_self], Nat.le_refl _, by rw [upd_self]; exact heap_alloc_new w _, by omega⟩ (fun d' g' e' => ?_)⟩⟩
          simp only [TV.id, Option.some.injEq, Prod.mk.injEq] at e'
          exact ⟨e'.1.symm, e'.2.symm⟩
        · split at hs
          · rename_i s1 hz
            split at hs
            · rename_i size cs hl
              cases hs
              have h' := h.frzAll hz
              obtain ⟨us, e, hrun, hsz, hlen, hall⟩ := lit_run h' hl (some d) ty pos af gd
              refine Runs.goes ⟨_, .inl ⟨_, hrun, _, h'.new (hd d rfl) hall ⟨n, us, e, by rw [upd_self], Nat.le_refl _, by rw [upd_self]; exact heap_alloc_new w _, by omega⟩ (fun d' g' e' => ?_)⟩⟩
              simp only [TV.id, Option.some.injEq, Prod.mk.injEq] at e'
              exact ⟨e'.1.symm, e'.2.symm⟩
            · cases hs
          · cases hs
  · rename_i t l c
    cases dst with
    | none => simp [hard] at hs
    | some d =>
      simp only [hard] at hs
      split at hs
      · rename_i e size bytes he
        split at hs
        · rename_i n m z hl hc hz
          split at hs
          · rename_i hcond
            obtain ⟨rfl, hn, hb, hzl, _⟩ := hcond
            cases hs
            exact (make_runs h (hd d rfl) he hl hc hz hn hb hzl ty pos af gd).goes
          · cases hs
        · cases hs
      · cases hs
  · split at hs
    · rename_i v hv
      cases hs
      exact (val_runs h (o := ⟨dst, op, ty, pos, af, gd⟩) hd hv).goes
    · split at hs
      · cases hs
      · unfold frzV at hs
        split at hs
        · rename_i t parts _ _ _ _ _ _ _ _ _
          split at hs
          · rename_i s1 hz
            split at hs
            · rename_i v hv
              cases hs
              exact (val_runs (h.frzAll hz) (o := ⟨dst, .build t parts, ty, pos, af, gd⟩) hd hv).goes
            · cases hs
          · cases hs
        · rename_i f first captured _ _ _ _ _ _ _ _ _
          split at hs
          · rename_i s1 hz
            split at hs
            · rename_i v hv
              cases hs
              exact (val_runs (h.frzAll hz) (o := ⟨dst, .makeFunc f first captured, ty, pos, af, gd⟩) hd hv).goes
            · cases hs
          · cases hs
        · rename_i s t x _ _ _ _ _ _ _ _ _
          split at hs
          · rename_i s1 hz
            split at hs
            · rename_i v hv
              cases hs
              exact (val_runs (h.frzAll hz) (o := ⟨dst, .convert s t x, ty, pos, af, gd⟩) hd hv).goes
            · cases hs
          · cases hs
        · cases hs
theorem stepS_goes (h : Rel w0 F I Z N β st a w) {call : Callf} (hcall : CallAll P call) {mu : FuncId → Bool} {soft : Bool} {ops : Array Oper} {dst : Option Nat} {op : Op} {st' : St} (hd : ∀ d, dst = some d → d < N)
    (hs : stepS P call mu soft ops dst op st = some st') (ty : TypeId) (pos : String) (af : Array Edge) (gd : Option (Nat × Bool)) : Goes P a ⟨dst, op, ty, pos, af, gd⟩ w (To w0 F I Z N st') := by
  unfold stepS at hs
  split at hs
  · cases hs
  · exact step_goes h hcall hd hs ty pos af gd
theorem wanted_rep {ops : Array Oper} {o : Oper} (h : Rel w0 F I Z N β st a w) {j : Nat} {want b : Bool} {t : Nat} (hg : o.guard = some (j, want)) (ht : (ops[j]?).bind (·.dst) = some t) (hb : st.tmp t = .sv (.bool b)) :
    Region.wanted o (yielded ops a.tmps) = (b == want) := by
  have hv := h.tmps t
  rw [hb] at hv
  have hv := rep_bool hv
  have hlt : a.tmps[t]? = some (.bool b) := by
    rw [Array.getD_eq_getD_getElem?] at hv
    cases hx : a.tmps[t]? with
    | none => rw [hx] at hv; simp [undef] at hv
    | some x => rw [hx] at hv; simp only [Option.getD_some] at hv; rw [hv]
  simp only [Region.wanted, hg, yielded, ht, Option.bind_some, hlt]
  cases b <;> cases want <;> rfl
theorem wanted_skip {ops : Array Oper} {o : Oper} (h : Rel w0 F I Z N β st a w) {j : Nat} {want : Bool} {t : Nat} (hg : o.guard = some (j, want)) (ht : (ops[j]?).bind (·.dst) = some t) (hb : st.tmp t = .skip) :
    Region.wanted o (yielded ops a.tmps) = false := by
  have hv := h.tmps t
  rw [hb] at hv
  have hv : a.tmps.getD t undef = undef := hv
  rw [Array.getD_eq_getD_getElem?] at hv
  simp only [Region.wanted, hg, yielded, ht, Option.bind_some]
  cases hx : a.tmps[t]? with
  | none => rfl
  | some x =>
    rw [hx] at hv
    simp only [Option.getD_some] at hv
    rw [hv]
    rfl
theorem stepO_wpOp (h : Rel w0 F I Z N β st a w) {call : Callf} (hcall : CallAll P call) {mu : FuncId → Bool} {soft : Bool} {ops : Array Oper} {i : Nat} {o : Oper} (hi : ops[i]? = some o) (hd : ∀ d, o.dst = some d → d < N) {st' : St}
    (hs : stepO P call mu soft ops o st = some st') {K : Act → World → Prop} (hK : ∀ a' w', To w0 F I Z N st' a' w' → K a' w') (Q : Exit → Act → World → Prop) : wpOp P ops Q i K a w := by
  unfold wpOp
  simp only [hi]
  unfold stepO at hs
  split at hs
  · rename_i hg
    have hw : Region.wanted o (yielded ops a.tmps) = true := by simp [Region.wanted, hg]
    rw [if_pos hw]
    exact .inl (Oper.wp_mono (fun a w => hK a w) (stepS_goes h hcall hd hs o.type o.pos o.after o.guard Q))
  · rename_i j want hg
    split at hs
    · rename_i t ht
      split at hs
      · rename_i b hb
        rw [wanted_rep h hg ht hb]
        split at hs
        · rename_i hbw
          rw [if_pos (by simp [hbw])]
          exact .inl (Oper.wp_mono (fun a w => hK a w) (stepS_goes h hcall hd hs o.type o.pos o.after o.guard Q))
        · rename_i hbw
          cases hs
          rw [if_neg (by simpa using hbw)]
          exact hK _ _ ⟨β, h.putO (t := .skip) hd rfl (fun d g e => by simp [TV.id] at e)⟩
      · rename_i hb
        cases hs
        rw [wanted_skip h hg ht hb, if_neg (by simp)]
        exact hK _ _ ⟨β, h.putO (t := .skip) hd rfl (fun d g e => by simp [TV.id] at e)⟩
      · cases hs
    · cases hs
end
end Go.Ev
namespace Go.Ev
open Go.RowKit
inductive Eff where
  | v (t : TV)
  | s (d g : Nat) (cs : List SV)
  | n (cs : List SV) (r : Option (Nat × Nat))
def Eff.app (dst : Option Nat) (st : St) : Eff → St
  | .v t => st.putO dst t
  | .s d g cs => st.set d g cs
  | .n cs r => match dst with
    | some d => st.new d cs (match r with | none => .ptr d (st.gen d) 0 | some (size, len) => .ref d (st.gen d) size 0 len)
    | none => st
section
variable {P : Program} {call : Callf} {mu : FuncId → Bool}
theorem eval_congr {st st2 : St} {x : Operand} (h : ∀ t, x = .tmp t → st2.tmp t = st.tmp t) : st2.eval x = st.eval x := by
  cases x with
  | tmp t => exact h t rfl
  | _ => rfl
theorem map_congr {st st2 : St} {l : List Operand} (h : ∀ x ∈ l, st2.eval x = st.eval x) : l.map st2.eval = l.map st.eval := List.map_congr_left h
theorem parts_congr {st st2 : St} : ∀ {l : List (Nat × Operand)}, (∀ p ∈ l, st2.eval p.2 = st.eval p.2) → partsSV st2 l = partsSV st l
  | [], _ => rfl
  | (i, x) :: r, h => by
    unfold partsSV
    rw [h (i, x) List.mem_cons_self, parts_congr (fun p hp => h p (List.mem_cons_of_mem _ hp))]
theorem val_congr {st st2 : St} {op : Op} (h : ∀ x ∈ op.operands, st2.eval x = st.eval x) (ho : ∀ d g, adrOp st op = some d → st2.obj d g = st.obj d g) (hh : st2.hob = st.hob) : val P st2 op = val P st op := by
  cases op with
  | move x => simp only [val, h x (by simp [Op.operands])]
  | assign x => simp only [val, h x (by simp [Op.operands])]
  | pick c a b => simp only [val, h c (by simp [Op.operands]), h a (by simp [Op.operands]), h b (by simp [Op.operands])]
  | build t ps =>
    have : partsSV st2 ps.toList = partsSV st ps.toList := parts_congr fun p hp => h p.2 (by
      simp only [Op.operands, List.mem_toArray, List.mem_map]
      exact ⟨p, hp, rfl⟩)
    simp only [val, this]
  | load t x =>
    have hx : st2.eval x = st.eval x := h x (by simp [Op.operands])
    simp only [val, hx]
    cases e : st.eval x with
    | ptr d g off => simp only [ho d g (by simp [adrOp, e, TV.adr]), hh]
    | sv s => cases s <;> rfl
    | _ => rfl
  | binOp op t x y yt => simp only [val, h x (by simp [Op.operands]), h y (by simp [Op.operands])]
  | unOp op t x => simp only [val, h x (by simp [Op.operands])]
  | nilCheck x => simp only [val, h x (by simp [Op.operands])]
  | convert s d x => simp only [val, h x (by simp [Op.operands])]
  | extract x i => simp only [val, h x (by simp [Op.operands])]
  | field t x f => simp only [val, h x (by simp [Op.operands])]
  | fieldAddr t x f => simp only [val, h x (by simp [Op.operands])]
  | indexAddr t x ix => simp only [val, h x (by simp [Op.operands]), h ix (by simp [Op.operands])]
  | index t x ix => simp only [val, h x (by simp [Op.operands]), h ix (by simp [Op.operands])]
  | slice t x lo hi mx =>
    have h1 : st2.eval x = st.eval x := h x (by simp [Op.operands])
    have h2 : loNat st2 lo = loNat st lo := by
      cases lo with
      | none => rfl
      | some o => simp only [loNat, h o (by simp [Op.operands])]
    have h3 : hiNat st2 x hi = hiNat st x hi := by
      cases hi with
      | none => simp only [hiNat, h1]
      | some o => simp only [hiNat, h o (by simp [Op.operands])]
    simp only [val, h1, h2, h3]
  | makeFunc fn first captured =>
    cases fn with
    | func f =>
      have : captured.toList.map st2.eval = captured.toList.map st.eval := map_congr fun x hx => h x (by simp [Op.operands]; exact .inr (by simpa using hx))
      simp only [val, this]
    | _ => rfl
  | call c =>
    obtain ⟨callee, args, tys⟩ := c
    cases callee with
    | value f => rfl
    | invoke r m => rfl
    | builtin b =>
      have hm : args.toList.map st2.eval = args.toList.map st.eval := map_congr fun x hx => h x (by simp [Op.operands, Call.operands]; simpa using hx)
      cases b with
      | len =>
        unfold val
        simp only
        cases ha : args.toList with
        | nil => rfl
        | cons x r =>
          have hx : st2.eval x = st.eval x := h x (by simp [Op.operands, Call.operands]; exact Array.mem_toList_iff.1 (by rw [ha]; exact List.mem_cons_self))
          cases r with
          | nil => cases tys.toList with
            | nil => rfl
            | cons t r' => cases r' with
              | nil => simp only [hx]
              | cons _ _ => rfl
          | cons _ _ => rfl
      | min => simp only [val, hm]
      | max => simp only [val, hm]
      | _ => rfl
  | _ => rfl
theorem reads_op {ops : Array Oper} {o : Oper} {st st2 : St} (h : ∀ t ∈ readsOf ops o, st2.tmp t = st.tmp t) : ∀ x ∈ o.op.operands, st2.eval x = st.eval x := by
  intro x hx
  refine eval_congr fun t ht => h t ?_
  subst ht
  exact List.mem_append_left _ (List.mem_filterMap.2 ⟨.tmp t, by simpa using hx, rfl⟩)
theorem roCall_eff {dst : Option Nat} {g : FuncId} {caps : List SV} {vs : List TV} {st s1 : St} (h : roCall call mu dst g caps vs st = some s1) :
    ∃ s d g' r, vs = .ptr d g' 0 :: r ∧ s1 = st.putO dst (.sv s) ∧ mu g = true ∧ ∀ st2 : St, st2.obj d g' = st.obj d g' → roCall call mu dst g caps vs st2 = some (st2.putO dst (.sv s)) := by
  unfold roCall at h
  split at h
  · rename_i d g' r
    split at h
    · cases h
    rename_i hnH
    split at h
    · rename_i cs ss ho hss
      split at h
      · rename_i hm
        split at h
        · rename_i s exps hc
          split at h
          · rename_i cs' e he
            split at h
            · rename_i hk
              cases h
              refine ⟨s, d, g', r, rfl, rfl, hm, fun st2 h2 => ?_⟩
              unfold roCall
              simp only [h2, ho, hss]
              rw [if_neg hnH, if_pos hm]
              simp only [hc, he]
              rw [if_pos hk]
            · cases h
          · cases h
        · cases h
      · cases h
    · cases h
  · cases h
theorem step_eff (hlk : LookOk call) {st s1 : St} {dst : Option Nat} {op : Op} (hh : isHard op = false) (hs : step P call mu true dst op st = some s1) :
    ∃ e : Eff, s1 = e.app dst st ∧ (∀ d g cs, e = .s d g cs → isStore op = true ∧ adrOp st op = some d ∧ dst = none) ∧ (∀ cs r, e = .n cs r → isAlloc op = true) ∧
      ∀ st2 : St, (∀ x ∈ op.operands, st2.eval x = st.eval x) → (∀ d g, adrOp st op = some d → st2.obj d g = st.obj d g) → st2.hob = st.hob → ((∃ g, mu g = true) → st2.obj = st.obj ∧ st2.gen = st.gen) → step P call mu true dst op st2 = some (e.app dst st2) := by
  unfold step at hs
  split at hs
  · -- a call
    rename_i f args tys
    unfold acall at hs
    split at hs
    · rename_i g caps hf
      split at hs
      · rename_i ss hss
        cases hc : call g ((ss ++ caps).map Arg.sv) with
        | none => rw [hc] at hs; cases hs
        | some re =>
          obtain ⟨r, exps⟩ := re
          rw [hc] at hs
          cases r with
          | obj cs => simp [afterCall] at hs
          | heap ts => simp [afterCall] at hs
          | st s1 t1 => simp [afterCall] at hs
          | row cs size off n =>
            cases hs
            refine ⟨.v (.sv (.sl n ((cs.drop off).take (n * size)))), rfl, (by intro _ _ _ e; cases e), (by intro _ _ e; cases e), fun st2 h _ _ _ => ?_⟩
            have hf2 : st2.eval f = .sv (.fn g caps) := (h f (by simp [Op.operands, Call.operands])).trans hf
            have hm : args.toList.map st2.eval = args.toList.map st.eval := map_congr fun x hx => h x (by simp [Op.operands, Call.operands]; exact .inr (by simpa using hx))
            show acall call mu true dst f args.toList st2 = _
            unfold acall
            rw [hf2]
            simp only
            rw [hm, hss]
            simp only
            rw [hc]
            rfl
          | sv s =>
            cases hs
            refine ⟨.v (.sv s), rfl, (by intro _ _ _ e; cases e), (by intro _ _ e; cases e), fun st2 h _ _ _ => ?_⟩
            have hf2 : st2.eval f = .sv (.fn g caps) := (h f (by simp [Op.operands, Call.operands])).trans hf
            have hm : args.toList.map st2.eval = args.toList.map st.eval := map_congr fun x hx => h x (by simp [Op.operands, Call.operands]; exact .inr (by simpa using hx))
            show acall call mu true dst f args.toList st2 = _
            unfold acall
            rw [hf2]
            simp only
            rw [hm, hss]
            simp only
            rw [hc]
            rfl
      · rename_i hss
        rw [if_pos rfl] at hs
        split at hs
        · rename_i hin
          unfold inLook at hs
          split at hs
          · rename_i s exps hc
            cases hs
            refine ⟨.v (.sv s), rfl, (by intro _ _ _ e; cases e), (by intro _ _ e; cases e), fun st2 h _ hhb hgo => ?_⟩
            have hf2 : st2.eval f = .sv (.fn g caps) := (h f (by simp [Op.operands, Call.operands])).trans hf
            have hm : args.toList.map st2.eval = args.toList.map st.eval := map_congr fun x hx => h x (by simp [Op.operands, Call.operands]; exact .inr (by simpa using hx))
            obtain ⟨ho2, hg2⟩ := hgo ⟨_, hin⟩
            obtain ⟨e', he'⟩ := hlk _ _ st2 _ _ _ hc ho2 hg2 hhb
            show acall call mu true dst f args.toList st2 = _
            unfold acall
            rw [hf2]
            simp only
            rw [hm, hss]
            simp only [if_true]
            rw [if_pos hin]
            unfold inLook
            rw [he']
            rfl
          · cases hs
        rename_i hin
        obtain ⟨s, d, g', r, hvs, rfl, hmu, hro⟩ := roCall_eff hs
        refine ⟨.v (.sv s), rfl, (by intro _ _ _ e; cases e), (by intro _ _ e; cases e), fun st2 h hobj hhb hgo => ?_⟩
        have hf2 : st2.eval f = .sv (.fn g caps) := (h f (by simp [Op.operands, Call.operands])).trans hf
        have hm : args.toList.map st2.eval = args.toList.map st.eval := map_congr fun x hx => h x (by simp [Op.operands, Call.operands]; exact .inr (by simpa using hx))
        show acall call mu true dst f args.toList st2 = _
        unfold acall
        rw [hf2]
        simp only
        rw [hm, hss]
        simp only
        simp only [if_true]
        rw [if_neg hin]
        refine hro st2 (hobj d g' ?_)
        cases ha : args.toList with
        | nil => rw [ha] at hvs; cases hvs
        | cons x l =>
          rw [ha, List.map_cons] at hvs
          injection hvs with e1 _
          simp only [adrOp, ha, e1, TV.adr]
    · cases hs
  · cases hh
  · cases hh
  · -- a store
    rename_i t x y
    split at hs
    · cases hs
    · rename_i hn
      have hdn : dst = none := by cases dst with
        | none => rfl
        | some d => simp at hn
      subst hdn
      unfold store at hs
      split at hs
      · rename_i b size d g off hsh hx
        split at hs
        · split at hs
          · split at hs
            · rename_i hc
              exact absurd hc.2.2.2 (by simp)
            · cases hs
          · cases hs
        rename_i hnH
        split at hs
        · rename_i s hy
          split at hs
          · rename_i cs ho
            split at hs
            · rename_i hc
              cases hs
              refine ⟨.s d g (splice cs off s.cells), rfl, (by intro _ _ _ e; cases e; exact ⟨rfl, by simp [adrOp, hx, TV.adr], rfl⟩), (by intro _ _ e; cases e), fun st2 h hobj hhb hgo => ?_⟩
              have hx2 : st2.eval x = .ptr d g off := (h x (by simp [Op.operands])).trans hx
              have hy2 : st2.eval y = st.eval y := h y (by simp [Op.operands])
              show store P true st2 t x y = _
              unfold store
              rw [hsh, hx2]
              simp only
              rw [if_neg hnH, hy2, hy]
              simp only
              rw [hobj d g (by simp [adrOp, hx, TV.adr]), ho]
              simp only
              rw [if_pos hc]
              rfl
            · cases hs
          · cases hs
        · cases hs
      · cases hs
  · -- a new object
    rename_i t
    cases dst with
    | none => simp [hard] at hs
    | some d =>
      simp only [hard] at hs
      split at hs
      · rename_i cs hz
        cases hs
        refine ⟨.n cs none, rfl, (by intro _ _ _ e; cases e), (by intro _ _ _; rfl), fun st2 _ _ _ _ => ?_⟩
        show hard P (some d) st2 (.alloc t) = _
        simp only [hard, hz]
        rfl
      · cases hs
  · cases hh
  · -- a slice that is written out
    rename_i t n parts
    split at hs
    · split at hs
      · rename_i size cs hl
        cases hs
        refine ⟨.v (.sv (.sl n cs)), rfl, (by intro _ _ _ e; cases e), (by intro _ _ e; cases e), fun st2 h _ _ _ => ?_⟩
        have : litC P st2 t n parts = litC P st t n parts := by
          unfold litC
          rw [parts_congr fun p hp => h p.2 (by
            simp only [Op.operands, List.mem_toArray, List.mem_map]
            exact ⟨p, hp, rfl⟩)]
        show (match litC P st2 t n parts with | some (_, cs) => some (st2.putO dst (.sv (.sl n cs))) | none => none) = _
        rw [this, hl]
        rfl
      · cases hs
    · rename_i hn
      exact absurd rfl hn
  · -- a new slice
    rename_i t l c
    cases dst with
    | none => simp [hard] at hs
    | some d =>
      simp only [hard] at hs
      split at hs
      · rename_i e size bytes he
        split at hs
        · rename_i n m z hl hc hz
          split at hs
          · rename_i hcond
            cases hs
            refine ⟨.n ((List.replicate n z).flatten) (some (size, n)), rfl, (by intro _ _ _ e; cases e), (by intro _ _ _; rfl), fun st2 h _ _ _ => ?_⟩
            have h1 : natTV (st2.eval l) = some n := by rw [h l (by simp [Op.operands])]; exact hl
            have h2 : natTV (st2.eval c) = some m := by rw [h c (by simp [Op.operands])]; exact hc
            show hard P (some d) st2 (.makeSlice t l c) = _
            simp only [hard, he, h1, h2, hz]
            rw [if_pos hcond]
            rfl
          · cases hs
        · cases hs
      · cases hs
  · rename_i h1 h2 h3 h4 h5 h6 h7 h8
    split at hs
    · rename_i v hv
      cases hs
      refine ⟨.v v, rfl, (by intro _ _ _ e; cases e), (by intro _ _ e; cases e), fun st2 h hobj hhb hgo => ?_⟩
      have h2 : val P st2 op = some v := (val_congr h hobj hhb).trans hv
      unfold step
      split
      case h_9 => rw [h2]; rfl
      all_goals (exfalso; solve_by_elim)
    · simp at hs
theorem sv_adr {x : TV} {s : SV} (h : x.toSV = some s) : x.adr = none := by cases x <;> first | rfl | cases h
theorem step_adr {st s1 : St} {dst : Option Nat} {op : Op} {d : Nat} (hs : step P call mu true dst op st = some s1) (had : adrOp st op = some d) : (isMem op = true ∧ isAlloc op = false) ∨ ∃ g, mu g = true := by
  cases op with
  | load t x => exact .inl ⟨rfl, rfl⟩
  | store t x y => exact .inl ⟨rfl, rfl⟩
  | call c =>
    obtain ⟨callee, args, tys⟩ := c
    cases callee with
    | value f =>
      have hs : acall call mu true dst f args.toList st = some s1 := hs
      unfold acall at hs
      split at hs
      · rename_i g caps hf
        split at hs
        · rename_i ss hss
          simp only [adrOp] at had
          cases ha : args.toList with
          | nil => rw [ha] at had; cases had
          | cons x l =>
            rw [ha] at had hss
            rw [List.map_cons] at hss
            obtain ⟨s, _, h1, _⟩ := allSV_cons hss
            simp only [sv_adr h1] at had
            cases had
        · rw [if_pos rfl] at hs
          split at hs
          · rename_i hin
            exact .inr ⟨_, hin⟩
          · obtain ⟨_, _, _, _, _, _, hmu, _⟩ := roCall_eff hs
            exact .inr ⟨g, hmu⟩
      · cases hs
    | _ => simp [adrOp] at had
  | _ => simp [adrOp] at had
end
end Go.Ev
namespace Go.Ev
open Go.RowKit
section
variable {P : Program} {call : Callf} {mu : FuncId → Bool}
theorem stepS_some {soft : Bool} {ops : Array Oper} {dst : Option Nat} {op : Op} {st s1 : St} (h : stepS P call mu soft ops dst op st = some s1) : step P call (muS mu soft ops) soft dst op st = some s1 := by
  unfold stepS at h
  split at h
  · cases h
  · exact h
theorem stepO_eff (hlk : LookOk call) {ops : Array Oper} {o : Oper} {st s1 : St} (hh : isHard o.op = false) (hs : stepO P call mu true ops o st = some s1) :
    ∃ (e : Eff) (rd : Option Nat), s1 = e.app o.dst st ∧ (∀ d g cs, e = .s d g cs → isStore o.op = true ∧ rd = some d ∧ o.dst = none) ∧ (∀ cs r, e = .n cs r → isAlloc o.op = true) ∧
      (∀ d, rd = some d → (isMem o.op = true ∧ isAlloc o.op = false ∧ lkv ops o.op (some d) = true) ∨ noW ops = true) ∧
      ∀ st2 : St, (∀ t ∈ readsOf ops o, st2.tmp t = st.tmp t) → (∀ d g, rd = some d → st2.obj d g = st.obj d g) → st2.hob = st.hob → (noW ops = true → st2.obj = st.obj ∧ st2.gen = st.gen) → stepO P call mu true ops o st2 = some (e.app o.dst st2) := by
  have key : stepS P call mu true ops o.dst o.op st = some s1 → ∃ (e : Eff) (rd : Option Nat), s1 = e.app o.dst st ∧ (∀ d g cs, e = .s d g cs → isStore o.op = true ∧ rd = some d ∧ o.dst = none) ∧ (∀ cs r, e = .n cs r → isAlloc o.op = true) ∧
      (∀ d, rd = some d → (isMem o.op = true ∧ isAlloc o.op = false ∧ lkv ops o.op (some d) = true) ∨ noW ops = true) ∧
      ∀ st2 : St, (∀ t ∈ readsOf ops o, st2.tmp t = st.tmp t) → (∀ d g, rd = some d → st2.obj d g = st.obj d g) → st2.hob = st.hob → (noW ops = true → st2.obj = st.obj ∧ st2.gen = st.gen) → stepS P call mu true ops o.dst o.op st2 = some (e.app o.dst st2) := by
    intro h
    obtain ⟨e, h1, h2, h3, h4⟩ := step_eff hlk hh (stepS_some h)
    have hl : isMem o.op = false ∨ lkv ops o.op (adrOp st o.op) = true := by
      unfold stepS at h
      split at h
      · cases h
      · rename_i hn
        cases hm : isMem o.op with
        | false => exact .inl rfl
        | true =>
          right
          rw [hm] at hn
          simpa using hn
    refine ⟨e, adrOp st o.op, h1, h2, h3, fun d hd => ?_, fun st2 hr ho hhb hgo => ?_⟩
    · rcases step_adr (stepS_some h) hd with hk | ⟨g, hg⟩
      · refine .inl ⟨hk.1, hk.2, ?_⟩
        rcases hl with h | h
        · rw [hk.1] at h; cases h
        · rw [hd] at h; exact h
      · right
        have hg : (mu g && noW ops) = true := hg
        rw [Bool.and_eq_true] at hg
        exact hg.2
    · have ha : adrOp st2 o.op = adrOp st o.op := by
        have := reads_op (ops := ops) (o := o) hr
        revert this
        cases o.op with
        | call c =>
          intro this
          obtain ⟨callee, args, tys⟩ := c
          cases callee with
          | value f =>
            simp only [adrOp]
            cases ha : args.toList with
            | nil => rfl
            | cons x l =>
              simp only
              rw [this x (by simp [Op.operands, Call.operands]; exact .inr (by have : x ∈ args.toList := by rw [ha]; exact List.mem_cons_self
                                                                               simpa using this))]
          | _ => rfl
        | _ => intro this; first | rfl | (simp only [adrOp]; rw [this _ (by simp [Op.operands])])
      unfold stepS
      rw [ha, if_neg]
      · refine h4 st2 (reads_op hr) ho hhb fun ⟨g, hg⟩ => hgo ?_
        have hg : (mu g && noW ops) = true := hg
        rw [Bool.and_eq_true] at hg
        exact hg.2
      · rcases hl with h | h <;> simp [h]
  unfold stepO at hs
  split at hs
  · rename_i hg
    obtain ⟨e, rd, h1, h2, h3, h4, h5⟩ := key hs
    refine ⟨e, rd, h1, h2, h3, h4, fun st2 hr ho hhb hgo => ?_⟩
    unfold stepO
    rw [hg]
    exact h5 st2 hr ho hhb hgo
  · rename_i j want hg
    split at hs
    · rename_i t ht
      split at hs
      · rename_i b hb
        have htr : t ∈ readsOf ops o := by
          unfold readsOf
          rw [hg]
          simp only [ht]
          exact List.mem_append_right _ (by simp)
        split at hs
        · rename_i hbw
          obtain ⟨e, rd, h1, h2, h3, h4, h5⟩ := key hs
          refine ⟨e, rd, h1, h2, h3, h4, fun st2 hr ho hhb hgo => ?_⟩
          unfold stepO
          rw [hg]
          simp only [ht]
          rw [hr t htr, hb]
          simp only
          rw [if_pos hbw]
          exact h5 st2 hr ho hhb hgo
        · rename_i hbw
          cases hs
          refine ⟨.v .skip, none, rfl, (by intro _ _ _ e; cases e), (by intro _ _ e; cases e), (by intro _ e; cases e), fun st2 hr _ _ _ => ?_⟩
          unfold stepO
          rw [hg]
          simp only [ht]
          rw [hr t htr, hb]
          simp only
          rw [if_neg hbw]
          rfl
      · rename_i hb
        have htr : t ∈ readsOf ops o := by
          unfold readsOf
          rw [hg]
          simp only [ht]
          exact List.mem_append_right _ (by simp)
        cases hs
        refine ⟨.v .skip, none, rfl, (by intro _ _ _ e; cases e), (by intro _ _ e; cases e), (by intro _ e; cases e), fun st2 hr _ _ _ => ?_⟩
        unfold stepO
        rw [hg]
        simp only [ht]
        rw [hr t htr, hb]
        rfl
      · cases hs
    · cases hs
theorem putO_other {st : St} {dst : Option Nat} {v : TV} {t : Nat} (h : ∀ d, dst = some d → t ≠ d) : (st.putO dst v).tmp t = st.tmp t := by
  cases dst with
  | none => rfl
  | some d => exact if_neg (h d rfl)
theorem calm_symm {x y : Op} : calm x y = calm y x := by
  unfold calm
  cases isW x <;> cases isW y <;> cases isMem x <;> cases isMem y <;> rfl
theorem apartX_symm {a b : Option Operand} (h : apartX a b = true) : apartX b a = true := by
  cases a with
  | none => cases b with
    | none => rfl
    | some b => cases b <;> rfl
  | some a => cases b with
    | none => cases a <;> rfl
    | some b =>
      cases a <;> cases b <;> first | rfl | cases h | (simp only [apartX, bne_iff_ne] at h ⊢; exact fun e => h e.symm)
theorem apart_symm {x y : Op} (h : apart x y = true) : apart y x = true := by
  unfold apart at h ⊢
  rw [Bool.or_comm (isStore y)]
  simp only [Bool.or_eq_true] at h ⊢
  rcases h with h | h
  · exact .inl h
  · exact .inr (apartX_symm h)
theorem indep_parts {ops : Array Oper} {x y : Oper} (h : indep ops x y = true) : isHard x.op = false ∧ isHard y.op = false ∧ (∀ d, x.dst = some d → d ∉ readsOf ops y ∧ y.dst ≠ some d) ∧ (∀ d, y.dst = some d → d ∉ readsOf ops x) ∧
    (calm x.op y.op = true ∨ (calmAll ops = false ∧ apart x.op y.op = true)) := by
  unfold indep at h
  simp only [Bool.and_eq_true, Bool.not_eq_true', Bool.or_eq_true] at h
  obtain ⟨⟨h0, h0'⟩, h1, h2, h3⟩ := h
  refine ⟨h0, h0', fun d hd => ?_, fun d hd => ?_, h3⟩
  · rw [hd] at h1
    simpa using h1
  · rw [hd] at h2
    simpa using h2
theorem far {ops : Array Oper} {p q : Oper} (hp : p ∈ ops.toList) (hi : calm p.op q.op = true ∨ (calmAll ops = false ∧ apart p.op q.op = true)) (hr : ∀ d, p.dst = some d → d ∉ readsOf ops q) {d d' : Nat}
    (hq : isMem q.op = true ∧ isAlloc q.op = false ∧ lkv ops q.op (some d') = true) (hw : (isStore p.op = true ∧ lkv ops p.op (some d) = true) ∨ (isAlloc p.op = true ∧ p.dst = some d)) : d ≠ d' := by
  intro e
  subst e
  have hpW : isW p.op = true := by
    unfold isW
    rcases hw with h | h <;> simp [h.1]
  have hnc : calmAll ops = false ∧ apart p.op q.op = true := by
    refine hi.resolve_left fun hc => ?_
    unfold calm at hc
    rw [hpW, hq.1] at hc
    simp at hc
  obtain ⟨hca, hap⟩ := hnc
  have hq3 := hq.2.2
  unfold lkv at hq3
  rw [hca, Bool.false_or] at hq3
  have rd : ∀ {t : Nat} (x : Operand), x = .tmp t → x ∈ q.op.operands → t ∈ readsOf ops q := by
    intro t x hx hm
    subst hx
    exact List.mem_append_left _ (List.mem_filterMap.2 ⟨.tmp t, by simpa using hm, rfl⟩)
  rcases hw with ⟨hs, hl⟩ | ⟨ha, hd⟩
  · unfold lkv at hl
    rw [hca, Bool.false_or] at hl
    cases hpo : p.op with
    | store t x y =>
      rw [hpo] at hl hap
      simp only at hl
      cases x with
      | tmp s =>
        have hsd : s = d := by simpa using hl
        subst hsd
        have hmem : s ∈ lkT ops := List.mem_filterMap.2 ⟨p, hp, by simp only [hpo]⟩
        cases hqo : q.op with
        | load t' z =>
          rw [hqo] at hq3 hap
          simp only at hq3
          rw [List.all_eq_true] at hq3
          have := hq3 s hmem
          cases z with
          | tmp u =>
            simp [apart, apartX, memOp, isStore] at hap this
            exact hap this.symm
          | _ => simp at this
        | store t' z z' =>
          rw [hqo] at hq3 hap
          simp only at hq3
          cases z with
          | tmp u =>
            simp [apart, apartX, memOp, isStore] at hap hq3
            exact hap hq3.symm
          | _ => simp at hq3
        | _ =>
          have := hq.1
          have h2 := hq.2.1
          rw [hqo] at this h2
          first | (simp [isMem, isStore, isLoad, isAlloc] at this; done) | (simp [isAlloc] at h2)
      | _ => simp at hl
    | _ => rw [hpo] at hs; cases hs
  · have hmem : d ∈ lkT ops := by
      refine List.mem_filterMap.2 ⟨p, hp, ?_⟩
      cases hpo : p.op with
      | alloc t => simp only [hd]
      | makeSlice t l c => simp only [hd]
      | _ => rw [hpo] at ha; cases ha
    have hnr := hr d hd
    cases hqo : q.op with
    | load t' z =>
      rw [hqo] at hq3
      simp only at hq3
      rw [List.all_eq_true] at hq3
      have := hq3 d hmem
      cases z with
      | tmp u =>
        simp at this
        subst this
        exact hnr (rd (.tmp u) rfl (by rw [hqo]; simp [Op.operands]))
      | _ => simp at this
    | store t' z z' =>
      rw [hqo] at hq3
      simp only at hq3
      cases z with
      | tmp u =>
        simp at hq3
        subst hq3
        exact hnr (rd (.tmp u) rfl (by rw [hqo]; simp [Op.operands]))
      | _ => simp at hq3
    | _ =>
      have := hq.1
      have h2 := hq.2.1
      rw [hqo] at this h2
      first | (simp [isMem, isStore, isLoad, isAlloc] at this; done) | (simp [isAlloc] at h2)
theorem app_tmp {e : Eff} {st : St} {dst : Option Nat} {t : Nat} (h : ∀ d, dst = some d → t ≠ d) : (e.app dst st).tmp t = st.tmp t := by
  cases e with
  | v u => exact putO_other h
  | s d g cs => rfl
  | n cs r => cases dst with
    | none => rfl
    | some d => exact if_neg (h d rfl)
theorem app_gen {e : Eff} {st : St} {dst : Option Nat} {d : Nat} (h : dst ≠ some d) : (e.app dst st).gen d = st.gen d := by
  cases e with
  | v u => cases dst <;> rfl
  | s d g cs => rfl
  | n cs r => cases dst with
    | none => rfl
    | some d' => exact if_neg (fun e => h (by rw [e]))
theorem app_obj {e : Eff} {st : St} {dst : Option Nat} {d g : Nat} (hs : ∀ d' g' cs, e = .s d' g' cs → d' ≠ d) (hn : ∀ cs r, e = .n cs r → dst ≠ some d) : (e.app dst st).obj d g = st.obj d g := by
  cases e with
  | v u => cases dst <;> rfl
  | s d' g' cs => exact if_neg (fun h => hs d' g' cs rfl h.1.symm)
  | n cs r => cases dst with
    | none => rfl
    | some d' => exact if_neg (fun h => hn cs r rfl (by rw [h.1]))
theorem St.ext' {s t : St} (h1 : ∀ x, s.tmp x = t.tmp x) (h2 : ∀ d g, s.obj d g = t.obj d g) (h3 : ∀ d, s.gen d = t.gen d) (h4 : s.hob = t.hob) (h5 : s.up = t.up) : s = t := by
  cases s
  cases t
  simp only [St.mk.injEq]
  exact ⟨funext h1, funext fun d => funext fun g => h2 d g, funext h3, h4, h5⟩
theorem app_hob {e : Eff} {st : St} {dst : Option Nat} : (e.app dst st).hob = st.hob := by
  cases e <;> cases dst <;> rfl
theorem app_up {e : Eff} {st : St} {dst : Option Nat} : (e.app dst st).up = st.up := by
  cases e <;> cases dst <;> rfl
def Eff.ob (dst : Option Nat) : Eff → Option Nat
  | .v _ => none
  | .s d _ _ => some d
  | .n _ _ => dst
theorem app_ob {e : Eff} {st : St} {dst : Option Nat} {d g : Nat} (h : e.ob dst ≠ some d) : (e.app dst st).obj d g = st.obj d g := by
  refine app_obj (fun d' g' cs he hd => h ?_) (fun cs r he hd => h ?_)
  · rw [he, hd]; rfl
  · rw [he, hd]; rfl
theorem app_same {e : Eff} {st st2 : St} {dst : Option Nat} (hg : ∀ d, dst = some d → st2.gen d = st.gen d) :
    ((∀ t, dst = some t → (∀ d g cs, e ≠ .s d g cs) → (e.app dst st2).tmp t = (e.app dst st).tmp t)) ∧ (∀ (d g : Nat), e.ob dst = some d → st2.obj d g = st.obj d g → (e.app dst st2).obj d g = (e.app dst st).obj d g) ∧ (∀ d, dst = some d → (e.app dst st2).gen d = (e.app dst st).gen d) := by
  cases e with
  | v u =>
    refine ⟨fun t ht _ => ?_, ⟨fun d g h _ => (by cases h), fun d hd => ?_⟩⟩
    · subst ht; simp [Eff.app, St.putO, St.put]
    · subst hd; exact hg d rfl
  | s d' g' cs =>
    refine ⟨fun t _ h => (h _ _ _ rfl).elim, fun d g h ho => ?_, fun d hd => ?_⟩
    · simp only [Eff.app, St.set]
      split
      · rfl
      · exact ho
    · exact hg d hd
  | n cs r =>
    cases dst with
    | none => exact ⟨fun _ h => (by cases h), fun _ _ h => (by simp [Eff.ob] at h), fun _ h => (by cases h)⟩
    | some x =>
      have := hg x rfl
      refine ⟨fun t ht _ => ?_, fun d g h ho => ?_, fun d hd => ?_⟩
      · cases ht; simp [Eff.app, St.new, this]
      · simp only [Eff.app, St.new, this, ho]
      · cases hd; simp only [Eff.app, St.new, this]
theorem app_comm {ex ey : Eff} {st : St} {x y : Option Nat} (hd : ∀ d, x = some d → y ≠ some d) (hob : ∀ d, ex.ob x = some d → ey.ob y ≠ some d) (hsx : ∀ d g cs, ex = .s d g cs → x = none) (hsy : ∀ d g cs, ey = .s d g cs → y = none) :
    ex.app x (ey.app y st) = ey.app y (ex.app x st) := by
  have hd' : ∀ d, y = some d → x ≠ some d := fun d h e => hd d e h
  obtain ⟨x1, x2, x3⟩ := app_same (e := ex) (st := st) (st2 := ey.app y st) (dst := x) (fun d h => app_gen (hd d h))
  obtain ⟨y1, y2, y3⟩ := app_same (e := ey) (st := st) (st2 := ex.app x st) (dst := y) (fun d h => app_gen (hd' d h))
  refine St.ext' (fun t => ?_) (fun d g => ?_) (fun d => ?_) (by simp only [app_hob]) (by simp only [app_up])
  · by_cases hx : x = some t
    · have hy : y ≠ some t := hd t hx
      rw [x1 t hx (fun d g cs e => by rw [hsx d g cs e] at hx; cases hx)]
      exact (app_tmp fun d h e => hy (by rw [h, e])).symm
    · rw [app_tmp (e := ex) (fun d h e => hx (by rw [h, e]))]
      by_cases hy : y = some t
      · exact (y1 t hy (fun d g cs e => by rw [hsy d g cs e] at hy; cases hy)).symm
      · rw [app_tmp (e := ey) (fun d h e => hy (by rw [h, e])), app_tmp (e := ey) (fun d h e => hy (by rw [h, e])), app_tmp (e := ex) (fun d h e => hx (by rw [h, e]))]
  · by_cases hx : ex.ob x = some d
    · have hy := hob d hx
      rw [x2 d g hx (app_ob hy), app_ob hy]
    · rw [app_ob hx]
      by_cases hy : ey.ob y = some d
      · exact (y2 d g hy (app_ob hx)).symm
      · rw [app_ob hy, app_ob hy, app_ob hx]
  · by_cases hx : x = some d
    · rw [x3 d hx, app_gen (hd d hx)]
    · rw [app_gen hx]
      by_cases hy : y = some d
      · exact (y3 d hy).symm
      · rw [app_gen hy, app_gen hy, app_gen hx]
theorem not_noW {ops : Array Oper} {x : Oper} (hx : x ∈ ops.toList) (hw : isW x.op = true) : ¬ noW ops = true := by
  intro h
  have := List.all_eq_true.1 h x hx
  rw [hw] at this
  cases this
theorem wW {x : Oper} {A B : Prop} (h : (isStore x.op = true ∧ A) ∨ (isAlloc x.op = true ∧ B)) : isW x.op = true := by
  unfold isW
  rcases h with h | h <;> simp [h.1]
theorem swap (hlk : LookOk call) {ops : Array Oper} {x y : Oper} (hx0 : x ∈ ops.toList) (hy0 : y ∈ ops.toList) (hi : indep ops x y = true) {st s1 s2 : St} (hx : stepO P call mu true ops x st = some s1) (hy : stepO P call mu true ops y s1 = some s2) :
    ∃ s, stepO P call mu true ops y st = some s ∧ stepO P call mu true ops x s = some s2 := by
  obtain ⟨hhx, hhy, p1, p2, p3⟩ := indep_parts hi
  have p3' : calm y.op x.op = true ∨ (calmAll ops = false ∧ apart y.op x.op = true) := by
    rcases p3 with h | h
    · left; rw [calm_symm]; exact h
    · right; exact ⟨h.1, apart_symm h.2⟩
  obtain ⟨ex, rx, rfl, sx, nx, lx, cx⟩ := stepO_eff hlk hhx hx
  obtain ⟨ey, ry, rfl, sy, ny, ly, cy⟩ := stepO_eff hlk hhy hy
  -- what an effect writes, in the words of 'far'
  have wx : ∀ d, ex.ob x.dst = some d → (isStore x.op = true ∧ lkv ops x.op (some d) = true) ∨ (isAlloc x.op = true ∧ x.dst = some d) := by
    intro d h
    cases ex with
    | v u => cases h
    | s d' g cs => cases h; obtain ⟨a1, a2, _⟩ := sx _ _ _ rfl; exact .inl ⟨a1, ((lx d a2).resolve_right (not_noW hx0 (by unfold isW; rw [a1]; rfl))).2.2⟩
    | n cs r => exact .inr ⟨nx _ _ rfl, h⟩
  have wy : ∀ d, ey.ob y.dst = some d → (isStore y.op = true ∧ lkv ops y.op (some d) = true) ∨ (isAlloc y.op = true ∧ y.dst = some d) := by
    intro d h
    cases ey with
    | v u => cases h
    | s d' g cs => cases h; obtain ⟨a1, a2, _⟩ := sy _ _ _ rfl; exact .inl ⟨a1, ((ly d a2).resolve_right (not_noW hy0 (by unfold isW; rw [a1]; rfl))).2.2⟩
    | n cs r => exact .inr ⟨ny _ _ rfl, h⟩
  have fxy : ∀ d, ry = some d → ex.ob x.dst ≠ some d := fun d h e => far hx0 p3 (fun d hd => (p1 d hd).1) ((ly d h).resolve_right (not_noW hx0 (wW (wx d e)))) (wx d e) rfl
  have fyx : ∀ d, rx = some d → ey.ob y.dst ≠ some d := fun d h e => far hy0 p3' p2 ((lx d h).resolve_right (not_noW hy0 (wW (wy d e)))) (wy d e) rfl
  have hst : ∀ t ∈ readsOf ops y, st.tmp t = (ex.app x.dst st).tmp t := fun t ht => (app_tmp fun d hd e => (p1 d hd).1 (e ▸ ht)).symm
  have nox : noW ops = true → (ex.app x.dst st).obj = st.obj ∧ (ex.app x.dst st).gen = st.gen := fun hn => by
    cases ex with
    | v u => cases x.dst <;> exact ⟨rfl, rfl⟩
    | s d' g cs => exact (not_noW hx0 (wW (wx d' rfl)) hn).elim
    | n cs r => exact (not_noW hx0 (by unfold isW; rw [nx _ _ rfl]; simp) hn).elim
  have noy : noW ops = true → (ey.app y.dst st).obj = st.obj ∧ (ey.app y.dst st).gen = st.gen := fun hn => by
    cases ey with
    | v u => cases y.dst <;> exact ⟨rfl, rfl⟩
    | s d' g cs => exact (not_noW hy0 (wW (wy d' rfl)) hn).elim
    | n cs r => exact (not_noW hy0 (by unfold isW; rw [ny _ _ rfl]; simp) hn).elim
  refine ⟨ey.app y.dst st, cy st hst (fun d g h => (app_ob (fxy d h)).symm) app_hob.symm (fun hn => ⟨(nox hn).1.symm, (nox hn).2.symm⟩), ?_⟩
  rw [cx (ey.app y.dst st) (fun t ht => app_tmp fun d hd e => p2 d hd (e ▸ ht)) (fun d g h => app_ob (fyx d h)) app_hob noy]
  refine congrArg some (app_comm (fun d hd => (p1 d hd).2) (fun d h e => ?_) (fun d g cs e => (sx d g cs e).2.2) (fun d g cs e => (sy d g cs e).2.2))
  -- both write one object's number
  cases ex with
  | v u => cases h
  | s d' g cs => cases h; exact fyx d (sx _ _ _ rfl).2.1 e
  | n cs r =>
    cases ey with
    | v u => cases e
    | s d' g cs => cases e; exact fxy d (sy _ _ _ rfl).2.1 h
    | n cs' r' => exact (p1 d h).2 e
def execI (P : Program) (call : Callf) (mu : FuncId → Bool) (ops : Array Oper) : List Nat → St → Option St
  | [], st => some st
  | i :: r, st => match ops[i]? with
    | some o => match stepO P call mu true ops o st with
      | some s => execI P call mu ops r s
      | none => none
    | none => none
theorem execI_cons {ops : Array Oper} {i : Nat} {r : List Nat} {st s' : St} (h : execI P call mu ops (i :: r) st = some s') : ∃ o s, ops[i]? = some o ∧ stepO P call mu true ops o st = some s ∧ execI P call mu ops r s = some s' := by
  unfold execI at h
  split at h
  · rename_i o ho
    split at h
    · rename_i s hs; exact ⟨o, s, ho, hs, h⟩
    · cases h
  · cases h
theorem execI_of {ops : Array Oper} {i : Nat} {r : List Nat} {st s s' : St} {o : Oper} (ho : ops[i]? = some o) (hs : stepO P call mu true ops o st = some s) (h : execI P call mu ops r s = some s') : execI P call mu ops (i :: r) st = some s' := by
  unfold execI
  simp only [ho, hs]
  exact h
theorem mem_ops {ops : Array Oper} {i : Nat} {o : Oper} (h : ops[i]? = some o) : o ∈ ops.toList := List.mem_of_getElem? (i := i) (by simpa using h)
theorem to_front (hlk : LookOk call) {ops : Array Oper} {i : Nat} {o : Oper} (hi : ops[i]? = some o) : ∀ {xs ys : List Nat} {st s' : St}, (∀ x ∈ xs, ∀ p, ops[x]? = some p → indep ops p o = true) →
    execI P call mu ops (xs ++ i :: ys) st = some s' → ∃ s, stepO P call mu true ops o st = some s ∧ execI P call mu ops (xs ++ ys) s = some s'
  | [], ys, st, s', _, h => by
    obtain ⟨o', s, ho, hs, hr⟩ := execI_cons h
    rw [hi] at ho
    cases ho
    exact ⟨s, hs, hr⟩
  | x :: xs, ys, st, s', hind, h => by
    obtain ⟨p, s1, hp, hs1, hr⟩ := execI_cons h
    obtain ⟨s2, hs2, hr2⟩ := to_front hlk hi (fun y hy => hind y (List.mem_cons_of_mem _ hy)) hr
    obtain ⟨s, hs, hs'⟩ := swap hlk (mem_ops hp) (mem_ops hi) (hind x List.mem_cons_self p hp) hs1 hs2
    exact ⟨s, hs, execI_of hp hs' hr2⟩
theorem execI_range {ops : Array Oper} : ∀ {l : List Oper} {k : Nat} {st s : St}, ops.toList.drop k = l → execOps P call mu true ops l st = some s → execI P call mu ops (List.range' k l.length) st = some s
  | [], k, st, s, _, h => by unfold execOps at h; cases h; rfl
  | o :: r, k, st, s, hd, h => by
    unfold execOps at h
    cases e : stepO P call mu true ops o st with
    | none => rw [e] at h; cases h
    | some s1 =>
      rw [e] at h
      have ho : ops[k]? = some o := by
        have : (ops.toList.drop k)[0]? = some o := by rw [hd]; rfl
        rw [List.getElem?_drop] at this
        simpa using this
      rw [List.length_cons, List.range'_succ]
      refine execI_of ho e (execI_range ?_ h)
      rw [← List.drop_drop, hd]
      rfl
end
section
variable {P : Program} {w0 w : World} {F I : Nat → Prop} {Z : Zy} {N : Nat} {β : Nat → Nat → Nat} {st : St} {a : Act}
theorem seq_wpOps {call : Callf} (hcall : CallAll P call) {mu : FuncId → Bool} {soft : Bool} {ops : Array Oper} (hd : ∀ o ∈ ops.toList, ∀ d, o.dst = some d → d < N) {Q : Exit → Act → World → Prop} {st' : St} (hQ : ∀ a' w', To w0 F I Z N st' a' w' → Q .normal a' w') :
    ∀ {l : List Oper} {k : Nat} {st : St} {a : Act} {w : World}, ops.toList.drop k = l → execOps P call mu soft ops l st = some st' → To w0 F I Z N st a w → wpOps P ops Q (List.range' k l.length) a w
  | [], k, st, a, w, _, h, hr => by unfold execOps at h; cases h; exact hQ _ _ hr
  | o :: r, k, st, a, w, hdr, h, hr => by
    unfold execOps at h
    cases e : stepO P call mu soft ops o st with
    | none => rw [e] at h; cases h
    | some s1 =>
      rw [e] at h
      obtain ⟨β, hr⟩ := hr
      have ho : ops[k]? = some o := by
        have : (ops.toList.drop k)[0]? = some o := by rw [hdr]; rfl
        rw [List.getElem?_drop] at this
        simpa using this
      rw [List.length_cons, List.range'_succ, wpOps_cons]
      refine stepO_wpOp hr hcall ho (fun d e => hd o ?_ d e) e (fun a' w' hto => seq_wpOps hcall hd hQ ?_ h hto) Q
      · exact List.mem_of_getElem? (i := k) (by simpa using ho)
      · rw [← List.drop_drop, hdr]
        rfl
def Closed (ops : Array Oper) (listed : Array Bool) : Prop := ∀ i o, ops[i]? = some o → listed.getD i false = true → ∀ e ∈ o.after, Region.binds .any e = true → listed.getD e.on false = true
theorem force_eq {α : Type} (n : Nat) (f : Nat → α) : force n f = f n := by cases n <;> rfl
def Beh (ops : Array Oper) (j i : Nat) : Prop := ∀ listed, Closed ops listed → ∀ y, ops[j]? = some y → (∀ e ∈ y.after, Region.binds .any e = true → listed.getD e.on false = true) → listed.getD i false = true
def GoodRows (ops : Array Oper) (rows : List Nat) : Prop := ∀ j, j < rows.length → ∀ i, (rows.getD (rows.length - 1 - j) 0).testBit i = true → Beh ops j i
theorem rowOf_ok {ops : Array Oper} {rows : List Nat} (hg : GoodRows ops rows) {listed : Array Bool} (hc : Closed ops listed) (hl : rows.length ≤ ops.size) : ∀ {l : List Edge} {i : Nat}, (∀ e ∈ l, Region.binds .any e = true → listed.getD e.on false = true) →
    (rowOf rows l).testBit i = true → listed.getD i false = true
  | [], i, _, h => by simp [rowOf] at h
  | e :: r, i, hd, h => by
    unfold rowOf at h
    have ih := @rowOf_ok ops rows hg listed hc hl r i (fun e he => hd e (List.mem_cons_of_mem _ he))
    split at h
    · rename_i hb
      simp only [Bool.and_eq_true, decide_eq_true_eq] at hb
      have hon := hd e List.mem_cons_self hb.1
      simp only [Nat.testBit_or, Bool.or_eq_true, Nat.testBit_two_pow, decide_eq_true_eq] at h
      rcases h with rfl | h | h
      · exact hon
      · obtain ⟨o, ho⟩ : ∃ o, ops[e.on]? = some o := ⟨_, Array.getElem?_eq_getElem (by omega)⟩
        exact hg e.on hb.2 i h listed hc o ho (fun e' he' hb' => hc e.on o ho hon e' he' hb')
      · exact ih h
    · exact ih h
theorem rowsOf_ok {ops : Array Oper} : ∀ {l : List Oper} {rows : List Nat}, ops.toList.drop rows.length = l → rows.length ≤ ops.size → GoodRows ops rows → GoodRows ops (rowsOf l rows) ∧ (rowsOf l rows).length = rows.length + l.length
  | [], rows, _, _, hg => ⟨hg, rfl⟩
  | o :: r, rows, hd, hl, hg => by
    unfold rowsOf
    rw [force_eq]
    have ho : ops[rows.length]? = some o := by
      have : (ops.toList.drop rows.length)[0]? = some o := by rw [hd]; rfl
      rw [List.getElem?_drop] at this
      simpa using this
    have hlt := (Array.getElem?_eq_some_iff.1 ho).1
    obtain ⟨h1, h2⟩ := @rowsOf_ok ops r (rowOf rows o.after.toList :: rows) (by rw [List.length_cons, ← List.drop_drop, hd]; rfl) (by simp; omega) (by
      intro j hj i hb
      rw [List.length_cons] at hj hb
      rcases Nat.lt_or_ge j rows.length with hj' | hj'
      · refine hg j hj' i ?_
        rw [show rows.length + 1 - 1 - j = (rows.length - 1 - j) + 1 by omega, List.getD_cons_succ] at hb
        exact hb
      · have : j = rows.length := by omega
        subst this
        rw [show rows.length + 1 - 1 - rows.length = 0 by omega, List.getD_cons_zero] at hb
        intro listed hc y hy hdep
        rw [ho] at hy
        cases hy
        exact rowOf_ok hg hc hl (fun e he => hdep e (Array.mem_toList_iff.1 he)) hb)
    refine ⟨h1, ?_⟩
    rw [h2]
    simp
    omega
theorem okRows_at {ops : Array Oper} : ∀ {rows : List Nat} {j : Nat}, okRows ops rows = true → j < rows.length → okRow ops j (rows.getD (rows.length - 1 - j) 0) = true
  | m :: r, j, h, hj => by
    unfold okRows okRowsP at h
    simp only [Bool.and_eq_true] at h
    rw [List.length_cons] at hj ⊢
    rcases Nat.lt_or_ge j r.length with hj' | hj'
    · rw [show r.length + 1 - 1 - j = (r.length - 1 - j) + 1 by omega, List.getD_cons_succ]
      exact okRows_at h.2 hj'
    · have : j = r.length := by omega
      subst this
      rw [show r.length + 1 - 1 - r.length = 0 by omega, List.getD_cons_zero]
      exact h.1
theorem draw_parts {ops : Array Oper} (h : okDraw ops = true) {j : Nat} {y : Oper} (hy : ops[j]? = some y) : (∀ e ∈ y.after, Region.binds .any e = true → e.on < j) ∧ ∀ i, i < j → ∀ x, ops[i]? = some x → Beh ops j i ∨ indep ops x y = true := by
  unfold okDraw at h
  have hj : j < ops.size := (Array.getElem?_eq_some_iff.1 hy).1
  obtain ⟨hg, hlen⟩ := rowsOf_ok (ops := ops) (l := ops.toList) (rows := []) rfl (Nat.zero_le _) (fun j hj => absurd hj (Nat.not_lt_zero j))
  have hjl : j < (rowsOf ops.toList []).length := by rw [hlen]; simpa using hj
  have := okRows_at h hjl
  unfold okRow okRowP at this
  rw [hy] at this
  simp only [Bool.and_eq_true] at this
  obtain ⟨h1, h2⟩ := this
  refine ⟨fun e he hb => ?_, fun i hi x hx => ?_⟩
  · rw [Array.all_eq_true'] at h1
    have := h1 e he
    rw [hb] at this
    simpa using this
  · rw [List.all_eq_true] at h2
    have := h2 i (List.mem_range.2 hi)
    rw [hx] at this
    simp only [Bool.or_eq_true] at this
    rcases this with h | h
    · left; exact hg j hjl i h
    · exact .inr h
theorem mem_ready {ops : Array Oper} {listed : Array Bool} {i : Nat} (h : i ∈ Region.ready .any ops listed) : i < ops.size ∧ listed.getD i true = false ∧ ∀ o, ops[i]? = some o → ∀ e ∈ o.after, Region.binds .any e = true → listed.getD e.on false = true := by
  unfold Region.ready at h
  rw [List.mem_filter] at h
  obtain ⟨h1, h2⟩ := h
  have hlt := List.mem_range.1 h1
  simp only [Bool.and_eq_true, Bool.not_eq_true'] at h2
  refine ⟨hlt, h2.1, fun o ho e he hb => ?_⟩
  have h3 := h2.2
  rw [ho] at h3
  simp only [Option.map_some, Option.getD_some] at h3
  rw [Array.all_eq_true'] at h3
  have := h3 e he
  rw [hb] at this
  simpa using this
theorem any_wp {call : Callf} (hcall : CallAll P call) {mu : FuncId → Bool} {ops : Array Oper} (hd : ∀ o ∈ ops.toList, ∀ d, o.dst = some d → d < N) (hok : okDraw ops = true) {Q : Exit → Act → World → Prop} {st' : St} (hQ : ∀ a' w', To w0 F I Z N st' a' w' → Q .normal a' w') :
    ∀ {rest : List Nat} {listed : Array Bool} {st : St} {a : Act} {w : World}, Closed ops listed → listed.size = ops.size → rest.Pairwise (· < ·) → (∀ i, i ∈ rest ↔ i < ops.size ∧ listed.getD i true = false) → execI P call mu ops rest st = some st' → To w0 F I Z N st a w →
    wpAny P .any ops Q rest.length listed a w := by
  intro rest
  generalize hn : rest.length = n
  induction n generalizing rest with
  | zero =>
    intro listed st a w _ hsz _ hmem hex hr
    have h0 : rest = [] := List.eq_nil_of_length_eq_zero hn
    subst h0
    cases hex
    refine ⟨?_, hQ _ _ hr⟩
    cases hrd : Region.ready .any ops listed with
    | nil => rfl
    | cons i r =>
      obtain ⟨h1, h2, _⟩ := mem_ready (i := i) (by rw [hrd]; exact List.mem_cons_self)
      have := (hmem i).2 ⟨h1, h2⟩
      simp at this
  | succ n ih =>
    intro listed st a w hcl hsz hsort hmem hex hr
    refine ⟨fun hrd => ?_, fun i hi => ?_⟩
    · exfalso
      cases rest with
      | nil => simp at hn
      | cons j r =>
        obtain ⟨hj1, hj2⟩ := (hmem j).1 List.mem_cons_self
        have : j ∈ Region.ready .any ops listed := by
          unfold Region.ready
          refine List.mem_filter.2 ⟨List.mem_range.2 hj1, ?_⟩
          have ho : ops[j]? = some ops[j] := Array.getElem?_eq_getElem hj1
          simp only [Bool.and_eq_true, Bool.not_eq_true']
          refine ⟨hj2, ?_⟩
          rw [ho]
          simp only [Option.map_some, Option.getD_some]
          rw [Array.all_eq_true']
          intro e he
          cases hb : Region.binds .any e with
          | false => rfl
          | true =>
            simp only [Bool.not_true, Bool.false_or]
            have hlt := (draw_parts hok ho).1 e he hb
            cases hx : listed.getD e.on false with
            | true => rfl
            | false =>
              exfalso
              have hel : e.on < listed.size := by omega
              have hx' : listed.getD e.on true = false := by
                rw [Array.getD_eq_getD_getElem?, Array.getElem?_eq_getElem hel] at hx ⊢
                exact hx
              have := (hmem e.on).2 ⟨by omega, hx'⟩
              rcases List.mem_cons.1 this with h | h
              · omega
              · have := List.rel_of_pairwise_cons hsort h
                omega
        rw [hrd] at this
        simp at this
    · obtain ⟨h1, h2, h3⟩ := mem_ready hi
      have him := (hmem i).2 ⟨h1, h2⟩
      have ho : ops[i]? = some ops[i] := Array.getElem?_eq_getElem h1
      obtain ⟨xs, ys, hsplit⟩ := List.append_of_mem him
      have hsort' := hsort
      rw [hsplit, List.pairwise_append] at hsort'
      obtain ⟨sx, sy, sxy⟩ := hsort'
      have hlt : ∀ x ∈ xs, x < i := fun x hx => sxy x hx i List.mem_cons_self
      have hind : ∀ x ∈ xs, ∀ p, ops[x]? = some p → indep ops p ops[i] = true := by
        intro x hx p hp
        rcases (draw_parts hok ho).2 x (hlt x hx) p hp with hb | hb
        · exfalso
          have hl := hb listed hcl _ ho (h3 _ ho)
          have hxm := ((hmem x).1 (by rw [hsplit]; exact List.mem_append_left _ hx)).2
          have hel : x < listed.size := by
            have := ((hmem x).1 (by rw [hsplit]; exact List.mem_append_left _ hx)).1
            omega
          rw [Array.getD_eq_getD_getElem?, Array.getElem?_eq_getElem hel] at hl hxm
          simp only [Option.getD_some] at hl hxm
          rw [hl] at hxm
          cases hxm
        · exact hb
      rw [hsplit] at hex
      obtain ⟨s, hs, hrest⟩ := to_front hcall.2.2 ho hind hex
      obtain ⟨β, hr⟩ := hr
      refine stepO_wpOp hr hcall ho (fun d e => hd ops[i] (by simp) d e) hs (fun a' w' hto => ?_) Q
      refine ih (rest := xs ++ ys) ?_ ?_ (by simp [hsz]) ?_ (fun k => ?_) hrest hto
      rotate_left
      · intro j o hj hlj e he hb
        have up : ∀ k, listed.getD k false = true → (listed.setIfInBounds i true).getD k false = true := by
          intro k hk
          rw [Array.getD_eq_getD_getElem?] at hk ⊢
          by_cases hki : k = i
          · subst hki
            rw [Array.getElem?_setIfInBounds_self_of_lt (by omega)]
            rfl
          · rw [Array.getElem?_setIfInBounds_ne (fun e => hki e.symm)]
            exact hk
        by_cases hji : j = i
        · subst hji
          exact up _ (h3 o hj e he hb)
        · refine up _ (hcl j o hj ?_ e he hb)
          rw [Array.getD_eq_getD_getElem?] at hlj ⊢
          rw [Array.getElem?_setIfInBounds_ne (fun e => hji e.symm)] at hlj
          exact hlj
      rotate_right
      · rw [hsplit] at hn
        simp only [List.length_append, List.length_cons] at hn ⊢
        omega
      · rw [List.pairwise_append]
        exact ⟨sx, (List.pairwise_cons.1 sy).2, fun x hx y hy => sxy x hx y (List.mem_cons_of_mem _ hy)⟩
      · have hk := hmem k
        rw [hsplit] at hk
        have hnx : i ∉ xs := fun h => Nat.lt_irrefl _ (hlt i h)
        have hny : i ∉ ys := fun h => Nat.lt_irrefl _ ((List.pairwise_cons.1 sy).1 i h)
        by_cases hki : k = i
        · subst hki
          constructor
          · intro h; rcases List.mem_append.1 h with h | h
            · exact (hnx h).elim
            · exact (hny h).elim
          · rintro ⟨_, h⟩
            exfalso
            rw [Array.getD_eq_getD_getElem?, Array.getElem?_setIfInBounds_self_of_lt (by omega)] at h
            cases h
        · rw [Array.getD_eq_getD_getElem?, Array.getElem?_setIfInBounds_ne (fun e => hki e.symm), ← Array.getD_eq_getD_getElem?, ← hk]
          simp only [List.mem_append, List.mem_cons, hki, false_or]
end
end Go.Ev
namespace Go.Ev
def CallLe (c c' : Callf) : Prop := ∀ f a r, c f a = some r → c' f a = some r
theorem CallLe.refl (c : Callf) : CallLe c c := fun _ _ _ h => h
theorem CallLe.trans {a b c : Callf} (h : CallLe a b) (k : CallLe b c) : CallLe a c := fun _ _ _ x => k _ _ _ (h _ _ _ x)
section
variable {good : FuncId → Bool} {P : Program} {c c' : Callf} {mu : FuncId → Bool}
theorem afterCall_mono {soft : Bool} {dst : Option Nat} {st s : St} {g : FuncId} {ars : List Arg} (hc : CallLe c c')
    (h : afterCall soft dst st (c g ars) = some s) : afterCall soft dst st (c' g ars) = some s := by
  cases e : c g ars with
  | none => simp [e, afterCall] at h
  | some r => rw [hc _ _ _ e, ← e]; exact h
theorem roCall_mono (hc : CallLe c c') {dst : Option Nat} {g : FuncId} {caps : List SV} {vs : List TV} {st s : St}
    (h : roCall c mu dst g caps vs st = some s) : roCall c' mu dst g caps vs st = some s := by
  unfold roCall at h ⊢
  split at h
  · split at h
    · cases h
    · rename_i hH
      rw [if_neg hH]
      split at h
      · split at h
        · rename_i hm
          rw [if_pos hm]
          split at h
          · rename_i e
            rw [hc _ _ _ e]
            exact h
          · cases h
        · cases h
      · cases h
  · cases h
theorem inCall_mono (hc : CallLe c c') {dst : Option Nat} {g : FuncId} {caps : List SV} {vs : List TV} {st s : St}
    (h : inCall c dst g caps vs st = some s) : inCall c' dst g caps vs st = some s := by
  unfold inCall at h ⊢
  split at h
  · rename_i e
    rw [hc _ _ _ e]
    exact h
  · cases h
theorem inLook_mono (hc : CallLe c c') {dst : Option Nat} {g : FuncId} {caps : List SV} {vs : List TV} {st s : St}
    (h : inLook c dst g caps vs st = some s) : inLook c' dst g caps vs st = some s := by
  unfold inLook at h ⊢
  split at h
  · rename_i e
    rw [hc _ _ _ e]
    exact h
  · cases h
theorem acall_mono (hc : CallLe c c') {soft : Bool} {dst : Option Nat} {f : Operand} {args : List Operand} {st s : St}
    (h : acall c mu soft dst f args st = some s) : acall c' mu soft dst f args st = some s := by
  unfold acall at h ⊢
  split at h
  · split at h
    · exact afterCall_mono hc h
    · split at h
      · rename_i hs
        rw [if_pos hs]
        split at h
        · rename_i hi
          rw [if_pos hi]
          exact inLook_mono hc h
        · rename_i hi
          rw [if_neg hi]
          exact roCall_mono hc h
      · rename_i hs
        rw [if_neg hs]
        split at h
        · rename_i hm
          rw [if_pos hm]
          split at h
          · rename_i hi
            rw [if_pos hi]
            exact inCall_mono hc h
          · rename_i hi
            rw [if_neg hi]
            split at h
            · rename_i hd
              rw [if_pos hd]
              split at h
              · split at h
                · rename_i e
                  rw [hc _ _ _ e]
                  exact h
                · cases h
              · cases h
            · cases h
        · rename_i hm
          rw [if_neg hm]
          split at h
          · split at h
            · exact afterCall_mono hc h
            · cases h
          · cases h
  · cases h
theorem step_mono (hc : CallLe c c') {soft : Bool} {dst : Option Nat} {op : Op} {st s : St}
    (h : step P c mu soft dst op st = some s) : step P c' mu soft dst op st = some s := by
  unfold step at h ⊢
  split at h <;> first | exact acall_mono hc h | exact h
theorem stepS_mono (hc : CallLe c c') {soft : Bool} {ops : Array Oper} {dst : Option Nat} {op : Op} {st s : St}
    (h : stepS P c mu soft ops dst op st = some s) : stepS P c' mu soft ops dst op st = some s := by
  unfold stepS at h ⊢
  split at h
  · cases h
  · rename_i hn
    rw [if_neg hn]
    exact step_mono hc h
theorem stepO_mono (hc : CallLe c c') {soft : Bool} {ops : Array Oper} {o : Oper} {st s : St}
    (h : stepO P c mu soft ops o st = some s) : stepO P c' mu soft ops o st = some s := by
  unfold stepO at h ⊢
  split at h
  · exact stepS_mono hc h
  · split at h
    · split at h
      · split at h
        · rename_i hb
          rw [if_pos hb]
          exact stepS_mono hc h
        · rename_i hb
          rw [if_neg hb]
          exact h
      · exact h
      · cases h
    · cases h
theorem execOps_mono (hc : CallLe c c') {soft : Bool} {ops : Array Oper} : ∀ {l : List Oper} {st s : St},
    execOps P c mu soft ops l st = some s → execOps P c' mu soft ops l st = some s
  | [], _, _, h => h
  | o :: r, st, s, h => by
    unfold execOps at h ⊢
    cases e : stepO P c mu soft ops o st with
    | none => rw [e] at h; cases h
    | some st' =>
      rw [e] at h
      rw [stepO_mono hc e]
      exact execOps_mono hc h
theorem jumps_mono {f g : Code → St → Option (Ex × St)} (hfg : ∀ k s r, f k s = some r → g k s = some r) {c : Code} : ∀ {n m : Nat}, n ≤ m → ∀ {x : Option (Ex × St)} {r : Ex × St}, jumps f c n x = some r → jumps g c m x = some r := by
  intro n
  induction n with
  | zero => intro m _ x r h; simp [jumps] at h
  | succ n ih =>
    intro m hm x r h
    obtain ⟨m, rfl⟩ : ∃ m', m = m' + 1 := ⟨m - 1, by omega⟩
    unfold jumps at h ⊢
    split at h
    · rename_i l s
      split at h
      · rename_i rest hl
        cases e : f rest s with
        | none => rw [e] at h; cases n <;> simp [jumps] at h
        | some y => rw [e] at h; rw [hfg _ _ _ e]; exact ih (by omega) h
      · exact h
    · exact h
theorem exec_mono (hc : CallLe c c') : ∀ {n m : Nat} {k : Code} {st : St} {r : Ex × St}, n ≤ m →
    exec P c mu n k st = some r → exec P c' mu m k st = some r := by
  intro n
  induction n with
  | zero => intro m k st r _ h; simp [exec] at h
  | succ n ih =>
    intro m k st r hm h
    obtain ⟨m, rfl⟩ : ∃ m', m = m' + 1 := ⟨m - 1, by omega⟩
    have hm' : n ≤ m := by omega
    cases k with
    | skip => exact h
    | region id ops draw =>
      unfold exec at h ⊢
      dsimp only at h ⊢
      cases e0 : preFrz P draw ops st with
      | none => rw [e0] at h; cases h
      | some st0 =>
        rw [e0] at h
        dsimp only at h ⊢
        cases e : execOps P c mu draw ops ops.toList st0 with
        | none => rw [e] at h; cases h
        | some st' => rw [e] at h; rw [execOps_mono hc e]; exact h
    | seq a b =>
      unfold exec at h ⊢
      dsimp only at h ⊢
      cases e : exec P c mu n a st with
      | none => rw [e] at h; cases h
      | some x =>
        rw [e] at h
        rw [ih hm' e]
        obtain ⟨x, st'⟩ := x
        cases x with
        | normal => exact ih hm' h
        | exit i => exact h
        | ret => exact h
        | goto l => exact h
    | cond x t e =>
      unfold exec at h ⊢
      dsimp only at h ⊢
      split at h
      · exact ih hm' h
      · cases h
    | block id b =>
      unfold exec at h ⊢
      dsimp only at h ⊢
      cases e : exec P c mu n b st with
      | none => rw [e] at h; cases h
      | some x => rw [e] at h; rw [ih hm' e]; exact h
    | loop b =>
      unfold exec at h ⊢
      dsimp only at h ⊢
      cases e : exec P c mu n b st with
      | none => rw [e] at h; cases h
      | some x =>
        rw [e] at h
        rw [ih hm' e]
        obtain ⟨x, st'⟩ := x
        cases x with
        | normal => exact ih hm' h
        | exit i => exact h
        | ret => exact h
        | goto l => exact h
    | rangeFunc f p a b => exact h
    | exit id => exact h
    | scope b =>
      unfold exec at h ⊢
      dsimp only at h ⊢
      cases e : exec P c mu n b st with
      | none => rw [e] at h; cases n <;> simp [jumps] at h
      | some x =>
        rw [e] at h
        rw [ih hm' e]
        exact jumps_mono (fun k s r hr => ih hm' hr) hm' h
    | label l => exact h
    | goto l => exact h
    | ret => exact h
    | refuse w => exact h
theorem inlOf_some {rs : List ResultVar} {k : Bool} {x : Option (Ex × St)} {r : Ret × List (Option (List SV))} (h : inlOf P rs k x = some r) : ∃ st, x = some (.ret, st) := by
  unfold inlOf at h
  split at h
  · exact ⟨_, rfl⟩
  · cases h
theorem callN_le (X : Callf) : ∀ n, CallLe (callN P X mu good n) (callN P X mu good (n + 1))
  | 0 => fun f a r h => by simp [callN] at h
  | n + 1 => fun f a r h => by
    have ih := callN_le X n
    unfold callN at h ⊢
    split at h
    · split at h
      · split at h
        · rename_i hok
          rw [if_pos hok]
          split at h
          · split at h
            · rename_i hl
              rw [if_pos hl]
              obtain ⟨st, e⟩ := inlOf_some h
              rw [e] at h
              rw [exec_mono ih (Nat.le_succ n) e]
              exact h
            · cases h
          · cases h
        · cases h
      · cases h
    · split at h
      · exact h
      · split at h
        · split at h
          · rename_i hok
            rw [if_pos hok]
            split at h
            · split at h
              · rename_i hl
                rw [if_pos hl]
                split at h
                · rename_i e
                  rw [exec_mono ih (Nat.le_succ n) e]
                  exact h
                · rename_i e
                  rw [exec_mono ih (Nat.le_succ n) e]
                  exact h
                · cases h
              · cases h
            · cases h
          · cases h
        · cases h
theorem callN_mono (X : Callf) {n m : Nat} (h : n ≤ m) : CallLe (callN P X mu good n) (callN P X mu good m) := by
  induction h with
  | refl => exact CallLe.refl _
  | step _ ih => exact ih.trans (callN_le X _)
end
end Go.Ev
namespace Go.Ev
open Go.RowKit
def Ex.cv : Ex → Exit
  | .normal => .normal
  | .exit i => .exit i
  | .ret => .ret
  | .goto l => .goto l
def SW (P : Program) (c : Code) (Q : Exit → Act → World → Prop) : Nat → Exit → Act → World → Prop
  | 0, _, _, _ => False
  | k + 1, e, a, w => match e with
    | .goto l => match findLabel c l with
      | some rest => rest.wp P (SW P c Q k) a w
      | none => Q (.goto l) a w
    | e => Q e a w
theorem wp_scope_n {P : Program} {c : Code} {Q : Exit → Act → World → Prop} (n : Nat) {a : Act} {w : World} (h : c.wp P (SW P c Q n) a w) : (Code.scope c).wp P Q a w := by
  intro b k cs
  have key : ∀ n (b' : Code) a w, b'.wp P (SW P c Q n) a w → ∃ e a' w', Q e a' w' ∧ Arrives P (lone (b.at a (.code b' :: .inScope c :: k)) cs w) b k cs e a' w' := by
    intro n
    induction n with
    | zero => intro b' a w h; obtain ⟨e, a₁, w₁, hq, _⟩ := h b (.inScope c :: k) cs; exact hq.elim
    | succ n ih =>
      intro b' a w h
      obtain ⟨e, a₁, w₁, hq, harr⟩ := h b (.inScope c :: k) cs
      cases e with
      | normal => exact ⟨.normal, a₁, w₁, hq, Steps.trans harr (.one step_inScope)⟩
      | exit id => exact ⟨.exit id, a₁, w₁, hq, fun k' hk => harr k' (by simp [exitTo, hk])⟩
      | goto l =>
        have hq : (match findLabel c l with | some rest => rest.wp P (SW P c Q n) a₁ w₁ | none => Q (.goto l) a₁ w₁) := hq
        cases hl : findLabel c l with
        | some rest =>
          rw [hl] at hq
          obtain ⟨e₂, a₂, w₂, hq₂, harr₂⟩ := ih rest a₁ w₁ hq
          exact ⟨e₂, a₂, w₂, hq₂, .of_steps (harr _ (by simp [gotoIn, hl])) harr₂⟩
        | none =>
          rw [hl] at hq
          exact ⟨.goto l, a₁, w₁, hq, fun k' hk => harr k' (by simp [gotoIn, hl, hk])⟩
      | ret => exact ⟨_, a₁, w₁, hq, harr⟩
      | panic ch => exact ⟨_, a₁, w₁, hq, harr⟩
      | outgrown => exact ⟨_, a₁, w₁, hq, harr⟩
  obtain ⟨e, a', w', hq, harr⟩ := key n c a w h
  exact ⟨e, a', w', hq, .of_steps (.one step_scope) harr⟩
theorem ok_label {N : Nat} : ∀ {c : Code} {l : Nat} {rest : Code}, okCode N c = true → findLabel c l = some rest → okCode N rest = true := by
  intro c
  induction c with
  | seq a b iha ihb =>
    intro l rest hok h
    unfold okCode at hok
    simp only [Bool.and_eq_true] at hok
    unfold findLabel at h
    split at h
    · rename_i r hr
      cases h
      unfold okCode
      simp only [Bool.and_eq_true]
      exact ⟨iha hok.1 hr, hok.2⟩
    · exact ihb hok.2 h
  | label l' =>
    intro l rest hok h
    unfold findLabel at h
    split at h
    · cases h; rfl
    · cases h
  | _ => intro l rest hok h; simp [findLabel] at h
section
variable {P : Program} {w0 w : World} {F I : Nat → Prop} {Z : Zy} {N : Nat} {β : Nat → Nat → Nat} {st : St} {a : Act}
theorem region_wp {call : Callf} (hcall : CallAll P call) (hm : P.follows .mixedOrders = true) {mu : FuncId → Bool} {id : Nat} {ops : Array Oper} {draw : Bool} (hok : okCode N (.region id ops draw) = true) {st' : St} (hr : To w0 F I Z N st a w)
    (he : execOps P call mu draw ops ops.toList st = some st') {Q : Exit → Act → World → Prop} (hQ : ∀ a' w', To w0 F I Z N st' a' w' → Q .normal a' w') : (Code.region id ops draw).wp P Q a w := by
  unfold okCode at hok
  simp only [Bool.and_eq_true] at hok
  obtain ⟨h1, h2⟩ := hok
  have hd : ∀ o ∈ ops.toList, ∀ d, o.dst = some d → d < N := by
    intro o ho d hdst
    rw [Array.all_eq_true'] at h1
    have := h1 o (Array.mem_toList_iff.1 ho)
    rw [hdst] at this
    simpa using this
  cases draw with
  | false =>
    refine wp_region ?_
    have := seq_wpOps (F := F) (I := I) (w0 := w0) hcall hd hQ (l := ops.toList) (k := 0) rfl he hr
    rw [List.range_eq_range']
    simpa using this
  | true =>
    have hok : okDraw ops = true := by simpa using h2
    refine wp_region_any hm ?_
    obtain ⟨β, hr⟩ := hr
    have hr' : To w0 F I Z N st a { w with drawn := w.drawn + 1 } := ⟨β, hr.world rfl rfl rfl rfl⟩
    have hex := execI_range (l := ops.toList) (k := 0) rfl he
    have hl : ops.toList.length = ops.size := Array.length_toList
    rw [hl] at hex
    have := any_wp (F := F) (I := I) (w0 := w0) hcall hd hok hQ (rest := List.range' 0 ops.size) (listed := Array.replicate ops.size false) (fun j o hj hl => by
      rw [Array.getD_eq_getD_getElem?, Array.getElem?_replicate] at hl
      split at hl <;> cases hl) (by simp) (List.pairwise_lt_range') (fun i => by
      rw [List.mem_range'_1]
      constructor
      · rintro ⟨_, h⟩
        refine ⟨by omega, ?_⟩
        rw [Array.getD_eq_getD_getElem?, Array.getElem?_replicate, if_pos (by omega)]
        rfl
      · rintro ⟨h, _⟩
        omega) hex hr'
    rw [List.length_range'] at this
    exact this
theorem exec_wp {call : Callf} (hcall : CallAll P call) (hm : P.follows .mixedOrders = true) {mu : FuncId → Bool} : ∀ (n : Nat) {c : Code} {st : St} {a : Act} {w : World} {e : Ex} {st' : St} {Q : Exit → Act → World → Prop}, okCode N c = true → To w0 F I Z N st a w →
    exec P call mu n c st = some (e, st') → (∀ a' w', To w0 F I Z N st' a' w' → Q e.cv a' w') → c.wp P Q a w := by
  intro n
  induction n with
  | zero => intro c st a w e st' Q _ _ h; simp [exec] at h
  | succ n ih =>
    intro c st a w e st' Q hok hr h hQ
    cases c with
    | skip => simp only [exec, Option.some.injEq, Prod.mk.injEq] at h; obtain ⟨rfl, rfl⟩ := h; exact wp_skip (hQ _ _ hr)
    | region id ops draw =>
      unfold exec at h
      simp only at h
      split at h
      · rename_i s0 hs0
        have hr0 : To w0 F I Z N s0 a w := by
          unfold preFrz at hs0
          split at hs0
          · obtain ⟨β, hb⟩ := hr
            exact ⟨β, hb.frzAll hs0⟩
          · cases hs0; exact hr
        split at h
        · rename_i s hs
          cases h
          exact region_wp hcall hm hok hr0 hs hQ
        · cases h
      · cases h
    | seq x y =>
      unfold okCode at hok
      simp only [Bool.and_eq_true] at hok
      unfold exec at h
      simp only at h
      split at h
      · rename_i s hs
        exact wp_seq (ih hok.1 hr hs fun a' w' hr' => ih hok.2 hr' h hQ)
      · rename_i hne
        refine wp_seq (ih hok.1 hr h fun a' w' hr' => ?_)
        have hq := hQ a' w' hr'
        cases e with
        | normal => exact (hne _ h).elim
        | exit i => exact hq
        | ret => exact hq
        | goto l => exact hq
    | cond x t f =>
      unfold okCode at hok
      simp only [Bool.and_eq_true] at hok
      unfold exec at h
      simp only at h
      split at h
      · rename_i b hb
        obtain ⟨β, hrel⟩ := hr
        have hv := hrel.eval x
        rw [hb] at hv
        refine wp_cond (rep_bool hv) ?_
        cases b with
        | true => exact ih hok.1 ⟨β, hrel⟩ h hQ
        | false => exact ih hok.2 ⟨β, hrel⟩ h hQ
      · cases h
    | block id b =>
      unfold exec at h
      simp only at h
      refine wp_block ?_
      split at h
      · rename_i i s hs
        refine ih hok hr hs fun a' w' hr' => ?_
        show if i = id then Q .normal a' w' else Q (.exit i) a' w'
        split at h
        · rename_i hi
          cases h
          rw [if_pos hi]
          exact hQ a' w' hr'
        · rename_i hi
          cases h
          rw [if_neg hi]
          exact hQ a' w' hr'
      · rename_i hne
        refine ih hok hr h fun a' w' hr' => ?_
        have hq := hQ a' w' hr'
        cases e with
        | normal => exact hq
        | exit i => exact (hne _ _ h).elim
        | ret => exact hq
        | goto l => exact hq
    | loop b =>
      have key : ∀ (m : Nat), m ≤ n + 1 → ∀ {st : St} {a : Act} {w : World}, To w0 F I Z N st a w → exec P call mu m (.loop b) st = some (e, st') → Code.rounds P b Q m a w := by
        intro m
        induction m with
        | zero => intro _ st a w _ h; simp [exec] at h
        | succ m ihm =>
          intro hle st a w hr h
          rw [rounds_succ]
          unfold exec at h
          simp only at h
          split at h
          · rename_i s hs
            have hs' := exec_mono (CallLe.refl call) (show m ≤ n by omega) hs
            exact ih hok hr hs' fun a' w' hr' => ihm (by omega) hr' h
          · rename_i hne
            have h' := exec_mono (CallLe.refl call) (show m ≤ n by omega) h
            refine ih hok hr h' fun a' w' hr' => ?_
            have hq := hQ a' w' hr'
            cases e with
            | normal => exact (hne _ h).elim
            | exit i => exact hq
            | ret => exact hq
            | goto l => exact hq
      exact wp_loop_rounds (n + 1) (key (n + 1) (Nat.le_refl _) hr h)
    | rangeFunc f p x y => simp [exec] at h
    | exit id => simp only [exec, Option.some.injEq, Prod.mk.injEq] at h; obtain ⟨rfl, rfl⟩ := h; exact wp_exit (hQ _ _ hr)
    | scope b =>
      have h : jumps (exec P call mu n) b n (exec P call mu n b st) = some (e, st') := h
      have hb : okCode N b = true := hok
      have key : ∀ (k : Nat) {b' : Code} {s : St} {a : Act} {w : World}, okCode N b' = true → To w0 F I Z N s a w → jumps (exec P call mu n) b k (exec P call mu n b' s) = some (e, st') → b'.wp P (SW P b Q k) a w := by
        intro k
        induction k with
        | zero => intro b' s a w _ _ h; simp [jumps] at h
        | succ k ihk =>
          intro b' s a w hok' hr h
          cases hx : exec P call mu n b' s with
          | none => rw [hx] at h; simp [jumps] at h
          | some x =>
            obtain ⟨x, s1⟩ := x
            rw [hx] at h
            refine ih hok' hr hx fun a' w' hr' => ?_
            cases x with
            | goto l =>
              show (match findLabel b l with | some rest => rest.wp P (SW P b Q k) a' w' | none => Q (.goto l) a' w')
              unfold jumps at h
              dsimp only at h
              cases hl : findLabel b l with
              | some rest =>
                rw [hl] at h
                exact ihk (ok_label hb hl) hr' h
              | none =>
                rw [hl] at h
                cases h
                exact hQ a' w' hr'
            | normal => cases h; exact hQ a' w' hr'
            | exit i => cases h; exact hQ a' w' hr'
            | ret => cases h; exact hQ a' w' hr'
      exact wp_scope_n n (key n hb hr h)
    | label l => simp only [exec, Option.some.injEq, Prod.mk.injEq] at h; obtain ⟨rfl, rfl⟩ := h; exact wp_label (hQ _ _ hr)
    | goto l => simp only [exec, Option.some.injEq, Prod.mk.injEq] at h; obtain ⟨rfl, rfl⟩ := h; exact wp_goto (hQ _ _ hr)
    | ret => simp only [exec, Option.some.injEq, Prod.mk.injEq] at h; obtain ⟨rfl, rfl⟩ := h; exact wp_ret (hQ _ _ hr)
    | refuse why => simp [exec] at h
end
end Go.Ev
namespace Go.Ev
open Go.RowKit
noncomputable def resF (tmps : Array Value) : ResultVar → Sem Value
  | .tmp t => pure (tmps.getD t undef)
  | .cell a t => do loadVar t (← asAddr (tmps.getD a undef))
theorem results_list {P : Program} {w : World} {fn : Func} {tmps : Array Value} {vs : List Value} (h : (fn.results.toList.mapM (resF tmps)).run P w = .ok vs w) :
    (results fn tmps).run P w = .ok (if h : vs.toArray.size = 1 then vs.toArray[0] else .tuple vs.toArray) w := by
  unfold results
  have e : (fn.results.mapM fun r => match r with
    | .tmp t => pure (tmps.getD t undef)
    | .cell a t => do loadVar t (← asAddr (tmps.getD a undef)) : Sem (Array Value)) = List.toArray <$> fn.results.toList.mapM (resF tmps) := by
    rw [Array.mapM_eq_mapM_toList]
    congr 1
  simp only [Sem.run_bind, Sem.run_pure]
  erw [e]
  simp only [Sem.run_map, h, Result.andThen_ok]
section
variable {P : Program} {w0 w : World} {F I : Nat → Prop} {Z : Zy} {N : Nat} {β : Nat → Nat → Nat} {st : St} {a : Act}
theorem rep_sub {v : Value} {s : SV} (hr : Rep w (Mut F β st) v s) : Rep w F v s :=
  Rep.mono (w := w) (fun _ _ _ => rfl) (fun _ _ hf => .inl hf) hr
theorem Rel.res (h : Rel w0 F I Z N β st a w) {r : ResultVar} {t : TV} (hr : resTV P st r = some t) : ∃ v, (resF a.tmps r).run P w = .ok v w ∧ RepT β w (Mut F β st) v t := by
  cases r with
  | tmp u =>
    simp only [resTV, Option.some.injEq] at hr
    subst hr
    exact ⟨_, rfl, h.tmps u⟩
  | cell x t =>
    unfold resTV at hr
    simp only at hr
    split at hr
    · rename_i sh d g off hsh htmp
      split at hr
      · rename_i cs hcs
        cases hl : loadC sh (cs.drop off) with
        | none => rw [hl] at hr; cases hr
        | some s =>
          rw [hl] at hr
          cases hr
          have hv := h.tmps x
          rw [htmp] at hv
          obtain ⟨us, ty, hb, hall⟩ := h.objs d g cs hcs
          obtain ⟨v, hv', hrep⟩ := load_sound (P := P) (w := w) (M := Mut F β st) (a := ⟨β d g, off, none⟩) hsh (cells := cs.drop off) (s := s) (fun i y hi => by
            rw [List.getElem?_drop] at hi
            obtain ⟨_, u, hu, hru⟩ := hall _ y hi
            refine ⟨u, ?_, hru⟩
            rw [add_mk]
            simp [World.cell?, hb, hu]) hl
          refine ⟨v, ?_, hrep⟩
          have hv2 : a.tmps.getD x undef = .pointer (some ⟨β d g, off, none⟩) := hv
          simp [resF, hv2, asAddr, hv']
      · cases hr
    · cases hr
theorem Rel.out (h : Rel w0 F I Z N β st a w) {v : Value} {t : TV} {s : SV} (hr : RepT β w (Mut F β st) v t) (ho : outSV st t = some s) : Rep w F v s := by
  unfold outSV at ho
  split at ho
  · cases ho; exact rep_sub hr
  · cases ho; rw [show v = .slice none 0 0 from hr]; exact .sl0 _ _ _ (Nat.le_refl _)
  · rename_i d g size off n
    split at ho
    · rename_i hd
      split at ho
      · rename_i cs hcs
        cases ho
        obtain ⟨cap, us0, ty0, rfl, hn, hb0, hsz⟩ := hr
        obtain ⟨us, ty, hb, hall⟩ := h.objs d g cs hcs
        have hown := (h.own d g (by rw [hcs]; rfl)).1 (.inl hd)
        have hget : ∀ i y, ((cs.drop off).take (n * size))[i]? = some y → cs[off + i]? = some y := by
          intro i y hi
          rcases Nat.lt_or_ge i (n * size) with hlt | hge
          · rw [List.getElem?_take_of_lt hlt, List.getElem?_drop] at hi; exact hi
          · rw [List.getElem?_eq_none (by simp; omega)] at hi; cases hi
        refine .sl _ _ _ hn _ (fun i => us.getD (off + i) undef) (fun hf => absurd (h.old _ hf) (by simpa using hown)) (fun i y hi => ?_) (fun i y hi => ?_)
        · obtain ⟨_, u, hu, _⟩ := hall _ y (hget i y hi)
          rw [add_mk]
          simp [World.cell?, hb, hu]
        · obtain ⟨_, u, hu, hru⟩ := hall _ y (hget i y hi)
          have e : us.getD (off + i) undef = u := by rw [Array.getD_eq_getD_getElem?, hu]; rfl
          show Rep w F (us.getD (off + i) undef) y
          rw [e]
          exact rep_sub hru
      · cases ho
    · cases ho
  · cases ho
theorem Rel.resl (h : Rel w0 F I Z N β st a w) : ∀ {rs : List ResultVar} {l : List SV}, resSVs P st rs = some l →
    ∃ vs, (rs.mapM (resF a.tmps)).run P w = .ok vs w ∧ vs.length = rs.length ∧ l.length = rs.length ∧ ∀ (i : Nat) s, l[i]? = some s → ∃ v, vs[i]? = some v ∧ Rep w F v s := by
  intro rs
  induction rs with
  | nil => intro l hl; cases hl; exact ⟨[], rfl, rfl, rfl, fun i s hi => by simp at hi⟩
  | cons r rs ih =>
    intro l hl
    unfold resSVs at hl
    split at hl
    · rename_i t l' ht hl'
      split at hl
      · rename_i s hs
        cases hl
        obtain ⟨vs, h1, h2, h3, h4⟩ := ih hl'
        obtain ⟨v, hv, hrep⟩ := h.res ht
        refine ⟨v :: vs, ?_, by simp [h2], by simp [h3], fun i y hi => ?_⟩
        · simp [List.mapM_cons, hv, h1]
        · cases i with
          | zero => simp only [List.getElem?_cons_zero, Option.some.injEq] at hi ⊢; subst hi; exact ⟨v, rfl, h.out hrep hs⟩
          | succ i => simp only [List.getElem?_cons_succ] at hi ⊢; exact h4 i y hi
      · cases hl
    · cases hl
theorem Rel.rowRet (h : Rel w0 F I Z N β st a w) {fn : Func} {r : Ret} (hr : retRow P st fn.results.toList = some r) : ∃ v, (results fn a.tmps).run P w = .ok v w ∧ RetRep w0 w F v r := by
  unfold retRow at hr
  split at hr
  · rename_i rv hrs
    split at hr
    · rename_i d g size off n ht
      split at hr
      · rename_i hd
        cases hcs : st.obj d g with
        | none => rw [hcs] at hr; cases hr
        | some cs =>
          rw [hcs] at hr
          cases hr
          obtain ⟨v, hv, cap, us', ty', h1, h2, h3, h4⟩ := h.res ht
          obtain ⟨us, ty, hb, hall⟩ := h.objs d g cs hcs
          refine ⟨v, results_list (vs := [v]) (by rw [hrs]; simp [hv]), β d g, cap, us', ty', h1, h2, h3, h4, (h.own d g (by rw [hcs]; rfl)).1 (.inl hd), us, ty, hb, fun i s hi => ?_⟩
          obtain ⟨h1, u, hu, hru⟩ := hall i s hi
          refine ⟨h1, u, hu, Rep.mono (w := w) (fun _ _ _ => rfl) (fun b _ hm => ?_) hru⟩
          rcases hm with hm | rfl
          · exact .inl hm
          · exact .inr ⟨d, g, by rw [hcs]; rfl, rfl⟩
      · cases hr
    · cases hr
  · cases hr
theorem Rel.ret (h : Rel w0 F I Z N β st a w) {fn : Func} {r : Ret} (hr : retOf P st fn.results.toList = some r) : ∃ v, (results fn a.tmps).run P w = .ok v w ∧ RetRep w0 w F v r := by
  unfold retOf at hr
  split at hr
  · rename_i rv hrs
    have one : ∀ {t : TV}, resTV P st rv = some t → ∃ v, (results fn a.tmps).run P w = .ok v w ∧ RepT β w (Mut F β st) v t := by
      intro t ht
      obtain ⟨v, hv, hrep⟩ := h.res ht
      exact ⟨v, results_list (vs := [v]) (by rw [hrs]; simp [hv]), hrep⟩
    split at hr
    · rename_i d g ht
      split at hr
      · rename_i hd
        cases hcs : st.obj d g with
        | none => rw [hcs] at hr; cases hr
        | some cs =>
          rw [hcs] at hr
          cases hr
          obtain ⟨v, hv, hrep⟩ := one ht
          obtain ⟨us, ty, hb, hall⟩ := h.objs d g cs hcs
          refine ⟨v, hv, β d g, hrep, (h.own d g (by rw [hcs]; rfl)).1 (.inl hd), us, ty, hb, fun i s hi => ?_⟩
          obtain ⟨h1, u, hu, hru⟩ := hall i s hi
          refine ⟨h1, u, hu, Rep.mono (w := w) (fun _ _ _ => rfl) (fun b _ hm => ?_) hru⟩
          rcases hm with hm | rfl
          · exact .inl hm
          · exact .inr ⟨d, g, by rw [hcs]; rfl, rfl⟩
      · split at hr
        · rename_i hH
          split at hr
          · rename_i ts hts
            split at hr
            · rename_i hpl
              cases hr
              obtain ⟨v, hv, hrep⟩ := one ht
              obtain ⟨h1, h2, us, ty, hb, hall⟩ := h.hobs d g ts hts
              refine ⟨v, hv, β d g, us, ty, hrep, (h.own d g (by rw [h2]; rfl)).1 (.inr hH), hb, fun i t ht => ?_⟩
              obtain ⟨u, hu, h1u, hru, _⟩ := hall i t ht
              have hp := List.all_eq_true.1 hpl t (List.mem_of_getElem? ht)
              refine ⟨hp, u, hu, h1u, fun β2 => ?_⟩
              cases t with
              | sv x =>
                refine Rep.mono (w := w) (fun _ _ _ => rfl) (fun b _ hm => ?_) hru
                rcases hm with hm | rfl
                · exact .inl hm
                · exact .inr ⟨d, g, by rw [h2]; rfl, rfl⟩
              | nil => exact hru
              | _ => cases hp
            · cases hr
          · cases hr
        · cases hr
    · rename_i t ht hn
      cases ho : outSV st t with
      | none => rw [ho] at hr; cases hr
      | some s =>
        rw [ho] at hr
        cases hr
        obtain ⟨v, hv, hrep⟩ := one hn
        exact ⟨v, hv, h.out hrep ho⟩
    · cases hr
  · rename_i hne
    cases hl : resSVs P st fn.results.toList with
    | none => rw [hl] at hr; cases hr
    | some l =>
      rw [hl] at hr
      cases hr
      obtain ⟨vs, h1, h2, h3, h4⟩ := h.resl hl
      have hne1 : vs.length ≠ 1 := by
        intro e
        rw [h2] at e
        match hrs : fn.results.toList, e with
        | [x], _ => exact hne x hrs
      refine ⟨.tuple vs.toArray, ?_, ?_⟩
      · rw [results_list h1, dif_neg (by simpa using hne1)]
      · refine .tup _ _ (by simp; omega) fun i s hi => ?_
        obtain ⟨v, hv, hrep⟩ := h4 i s hi
        have e : vs.toArray.getD i undef = v := by rw [Array.getD_eq_getD_getElem?, List.getElem?_toArray, hv]; rfl
        rw [e]
        exact hrep
end
theorem holds_sub {w : World} {M M' : Nat → Prop} {b : Nat} {cs : List SV} (hM : ∀ x, M' x → M x) (h : Holds w M b cs) : Holds w M' b cs := by
  obtain ⟨us, ty, hb, hall⟩ := h
  refine ⟨us, ty, hb, fun i s hi => ?_⟩
  obtain ⟨h1, v, hv, hr⟩ := hall i s hi
  exact ⟨h1, v, hv, Rep.mono (w := w) (fun _ _ _ => rfl) (fun b _ hm => hM b hm) hr⟩
theorem entry {w : World} {F : Nat → Prop} {B : Nat → Nat} {vals : Array Value} {args : List Arg} {N : Nat} (hN : N ≤ N0) (hle : args.length ≤ N) (hF : ∀ b, F b → b < w.heap.size) (hsz : vals.size = args.length)
    (hrep : ∀ (i : Nat) (x : Arg), args[i]? = some x → ArgRep w F (vals.getD i undef) (B i) x)
    (hinj : ∀ (i j : Nat) (x y : Arg), args[i]? = some x → args[j]? = some y → isImp x = true → isImp y = true → B i = B j → i = j) :
    Rel w F (impB args B) ⟨B, fun _ => undef⟩ N (fun d _ => B (d - N0)) (argSt args) { tmps := vals ++ Array.replicate (N - vals.size) undef, defers := [] } w := by
  have hobj : ∀ d g cs, (argSt args).obj d g = some cs → N0 ≤ d ∧ g = 0 ∧ ∃ x, args[d - N0]? = some x ∧ isImp x = true ∧ Holds w F (B (d - N0)) cs := by
    intro d g cs h
    simp only [argSt] at h
    split at h
    · rename_i hd
      refine ⟨hd.1, hd.2, ?_⟩
      split at h
      · rename_i cs' hx
        cases h
        exact ⟨_, hx, rfl, (hrep _ _ hx).2.2⟩
      · rename_i cs' _ _ _ hx
        cases h
        exact ⟨_, hx, rfl, (hrep _ _ hx).2.2⟩
      · cases h
    · cases h
  have hobj' : ∀ d g, ((argSt args).obj d g).isSome = true → N0 ≤ d ∧ g = 0 ∧ ∃ x, args[d - N0]? = some x ∧ isImp x = true ∧ F (B (d - N0)) := by
    intro d g h
    obtain ⟨cs, hcs⟩ := Option.isSome_iff_exists.1 h
    obtain ⟨h1, h2, x, hx, hi, _⟩ := hobj d g cs hcs
    refine ⟨h1, h2, x, hx, hi, ?_⟩
    have := hrep _ _ hx
    cases x with
    | sv s => simp [isImp] at hi
    | imp cs => exact this.2.1
    | impref cs size off n => exact this.2.1
    | st _ _ _ => simp [isImp] at hi
  have hmut : ∀ b, Mut F (fun d _ => B (d - N0)) (argSt args) b → F b := by
    rintro b (h | ⟨d, g, h1, rfl⟩)
    · exact h
    · obtain ⟨_, _, _, _, _, h⟩ := hobj' d g h1
      exact h
  exact {
    defers := rfl
    size := by simp; omega
    tmps := fun t => by
      simp only [argSt]
      have hlt : ∀ x, args[t]? = some x → (vals ++ Array.replicate (N - vals.size) undef).getD t undef = vals.getD t undef := by
        intro x hx
        have : t < vals.size := by
          rw [hsz]
          rcases Nat.lt_or_ge t args.length with h | h
          · exact h
          · rw [List.getElem?_eq_none h] at hx; cases hx
        rw [Array.getD_eq_getD_getElem?, Array.getD_eq_getD_getElem?, Array.getElem?_append_left this]
      split
      · rename_i s hx
        rw [hlt _ hx]
        exact Rep.mono (w := w) (fun _ _ _ => rfl) (fun b _ hm => hmut b hm) (hrep _ _ hx)
      · rename_i cs hx
        rw [hlt _ hx]
        show _ = Value.pointer (some ⟨B (N0 + t - N0), 0, none⟩)
        rw [(hrep _ _ hx).1, show N0 + t - N0 = t by omega]
      · rename_i cs size off n hx
        rw [hlt _ hx]
        obtain ⟨⟨cap, us, ty, h1, h2, h3, h4⟩, _⟩ := hrep _ _ hx
        have e : N0 + t - N0 = t := by omega
        exact ⟨cap, us, ty, by simp only [e]; exact h1, h2, by simp only [e]; exact h3, h4⟩
      · trivial
      · trivial
    ids := fun t d g h => by
      simp only [argSt] at h ⊢
      split at h <;> simp only [TV.id, Option.some.injEq, Prod.mk.injEq, reduceCtorEq] at h
      all_goals
        obtain ⟨rfl, rfl⟩ := h
        rw [if_pos (by omega)]
        omega
    objs := fun d g cs h => by
      obtain ⟨_, _, x, _, _, us, ty, hb, hall⟩ := hobj d g cs h
      refine ⟨us, ty, hb, fun i s hi => ?_⟩
      obtain ⟨h1, v, hv, hr⟩ := hall i s hi
      exact ⟨h1, v, hv, Rep.mono (w := w) (fun _ _ _ => rfl) (fun b _ hm => hmut b hm) hr⟩
    own := fun d g h => by
      obtain ⟨h1, h2, x, hx, hi, _⟩ := hobj' d g h
      have hlt : d - N0 < args.length := by
        rcases Nat.lt_or_ge (d - N0) args.length with hh | hh
        · exact hh
        · rw [List.getElem?_eq_none hh] at hx; cases hx
      have : H0 = N0 + N0 := by decide
      exact ⟨fun hlt => by omega, fun _ _ => ⟨_, x, hx, hi, rfl⟩⟩
    room := hN
    inj := fun d1 g1 d2 g2 h1 h2 e => by
      obtain ⟨a1, b1, x, hx, hi, _⟩ := hobj' d1 g1 h1
      obtain ⟨a2, b2, y, hy, hj, _⟩ := hobj' d2 g2 h2
      have := hinj _ _ x y hx hy hi hj e
      exact ⟨by omega, by rw [b1, b2]⟩
    gens := fun d g h => by
      obtain ⟨h1, h2, _⟩ := hobj' d g h
      simp only [argSt, h2]
      rw [if_pos h1]
      omega
    ext := Ext.refl _ _
    old := hF
    imps := by
      rintro b ⟨i, x, hx, hi, rfl⟩
      have := hrep _ _ hx
      cases x with
      | sv s => simp [isImp] at hi
      | imp cs => exact this.2.1
      | impref cs size off n => exact this.2.1
      | st _ _ _ => simp [isImp] at hi
    pin := fun _ _ _ _ => rfl
    ups := fun _ => trivial
    uids := fun _ d g h => by simp [argSt, TV.id] at h
    hobs := fun d g ts h => by simp [argSt] at h }
section
variable {P : Program} {w0 w : World} {F I : Nat → Prop} {Z : Zy} {N : Nat} {β : Nat → Nat → Nat} {st : St} {a : Act}
theorem Rel.enter (h : Rel w0 F I Z N β st a w) {vs : List TV} {vals : Array Value} {M : Nat} (hM : M ≤ N0) (hle : vs.length ≤ M) (hsz : vals.size = vs.length)
    (hv : ∀ (i : Nat) (v : TV), vs[i]? = some v → RepT β w (Mut F β st) (vals.getD i undef) v ∧ ∀ d g, v.id = some (d, g) → g < st.gen d) :
    Rel w0 F I ⟨Z.z, fun t => if t % 2 = 0 then a.tmps.getD (t / 2) undef else Z.y (t / 2)⟩ M β (st.enter vs) { tmps := vals ++ Array.replicate (M - vals.size) undef, defers := [] } w where
  defers := rfl
  size := by simp; omega
  tmps := fun t => by
    show RepT β w (Mut F β st) _ (optT vs[t]?)
    cases e : vs[t]? with
    | none => trivial
    | some v =>
      have hlt : t < vals.size := by
        rw [hsz]
        rcases Nat.lt_or_ge t vs.length with h | h
        · exact h
        · rw [List.getElem?_eq_none h] at e; cases e
      have := (hv t v e).1
      rw [Array.getD_eq_getD_getElem?] at this ⊢
      rw [Array.getElem?_append_left hlt]
      exact this
  ids := fun t d g hx => by
    have hx : (optT vs[t]?).id = some (d, g) := hx
    cases e : vs[t]? with
    | none => rw [e] at hx; simp [TV.id, optT] at hx
    | some v => rw [e] at hx; exact (hv t v e).2 d g hx
  objs := h.objs
  own := h.own
  room := hM
  inj := h.inj
  gens := h.gens
  ext := h.ext
  old := h.old
  imps := h.imps
  pin := h.pin
  ups := fun t => by
    show RepT β w (Mut F β st) (if t % 2 = 0 then a.tmps.getD (t / 2) undef else Z.y (t / 2)) (if t % 2 = 0 then st.tmp (t / 2) else st.up (t / 2))
    split
    · exact h.tmps _
    · exact h.ups _
  uids := fun t d g hx => by
    have hx : (if t % 2 = 0 then st.tmp (t / 2) else st.up (t / 2)).id = some (d, g) := hx
    split at hx
    · exact h.ids _ d g hx
    · exact h.uids _ d g hx
  hobs := h.hobs
theorem Rel.leave (h : Rel w0 F I Z N β st a w) {M : Nat} {β' : Nat → Nat → Nat} {s : St} {a' : Act} {w' : World}
    (hr : Rel w0 F I ⟨Z.z, fun t => if t % 2 = 0 then a.tmps.getD (t / 2) undef else Z.y (t / 2)⟩ M β' s a' w') : Rel w0 F I Z N β' s.leave a w' where
  defers := h.defers
  size := h.size
  tmps := fun t => by
    have := hr.ups (2 * t)
    simp only [Nat.mul_mod_right, if_true, Nat.mul_div_cancel_left t (Nat.succ_pos 1)] at this
    exact this
  ids := fun t d g hx => hr.uids (2 * t) d g hx
  objs := hr.objs
  own := hr.own
  room := h.room
  inj := hr.inj
  gens := hr.gens
  ext := hr.ext
  old := hr.old
  imps := hr.imps
  pin := hr.pin
  ups := fun t => by
    have := hr.ups (2 * t + 1)
    rw [show ((⟨Z.z, fun t => if t % 2 = 0 then a.tmps.getD (t / 2) undef else Z.y (t / 2)⟩ : Zy).y (2 * t + 1)) = Z.y t by
      show (if (2 * t + 1) % 2 = 0 then _ else _) = _
      rw [if_neg (by omega), show (2 * t + 1) / 2 = t by omega]] at this
    exact this
  uids := fun t d g hx => hr.uids (2 * t + 1) d g hx
  hobs := hr.hobs
theorem leave_enter {vs : List TV} {s : St} (h1 : s.obj = st.obj) (h2 : s.gen = st.gen) (h3 : s.hob = st.hob) (h4 : s.up = (st.enter vs).up) : s.leave = st := by
  cases st
  cases s
  simp only [St.leave, St.enter] at *
  subst h1 h2 h3 h4
  congr 1
  · funext t
    show (if (2 * t) % 2 = 0 then _ else _) = _
    rw [if_pos (by omega), show 2 * t / 2 = t by omega]
  · funext t
    show (if (2 * t + 1) % 2 = 0 then _ else _) = _
    rw [if_neg (by omega), show (2 * t + 1) / 2 = t by omega]
theorem Rel.resTV_id (h : Rel w0 F I Z N β st a w) {r : ResultVar} {t : TV} (hr : resTV P st r = some t) : ∀ d g, t.id = some (d, g) → g < st.gen d := by
  intro d g e
  cases r with
  | tmp u =>
    simp only [resTV, Option.some.injEq] at hr
    subst hr
    exact h.ids u d g e
  | cell x t' =>
    unfold resTV at hr
    simp only at hr
    split at hr
    · split at hr
      · obtain ⟨s, _, rfl⟩ := map_some hr
        simp [TV.id] at e
      · cases hr
    · cases hr
theorem Rel.resi (h : Rel w0 F I Z N β st a w) : ∀ {rs : List ResultVar} {l : List SV}, resIs P st rs = some l →
    ∃ vs, (rs.mapM (resF a.tmps)).run P w = .ok vs w ∧ vs.length = rs.length ∧ l.length = rs.length ∧ ∀ (i : Nat) s, l[i]? = some s → ∃ v, vs[i]? = some v ∧ Rep w (Mut F β st) v s := by
  intro rs
  induction rs with
  | nil => intro l hl; cases hl; exact ⟨[], rfl, rfl, rfl, fun i s hi => by simp at hi⟩
  | cons r rs ih =>
    intro l hl
    unfold resIs at hl
    split at hl
    · rename_i t l' ht hl'
      split at hl
      · rename_i s hs
        cases hl
        obtain ⟨vs, h1, h2, h3, h4⟩ := ih hl'
        obtain ⟨v, hv, hrep⟩ := h.res ht
        refine ⟨v :: vs, ?_, by simp [h2], by simp [h3], fun i y hi => ?_⟩
        · simp [List.mapM_cons, hv, h1]
        · cases i with
          | zero => simp only [List.getElem?_cons_zero, Option.some.injEq] at hi ⊢; subst hi; exact ⟨v, rfl, toSV_rep hrep hs⟩
          | succ i => simp only [List.getElem?_cons_succ] at hi ⊢; exact h4 i y hi
      · cases hl
    · cases hl
theorem Rel.reti (h : Rel w0 F I Z N β st a w) {fn : Func} {t : TV} (hr : retI P st fn.results.toList = some t) :
    ∃ v, (results fn a.tmps).run P w = .ok v w ∧ RepT β w (Mut F β st) v t ∧ ∀ d g, t.id = some (d, g) → g < st.gen d := by
  unfold retI at hr
  split at hr
  · rename_i rv hrs
    obtain ⟨v, hv, hrep⟩ := h.res hr
    exact ⟨v, results_list (vs := [v]) (by rw [hrs]; simp [hv]), hrep, h.resTV_id hr⟩
  · rename_i hne
    obtain ⟨l, hl, rfl⟩ := map_some hr
    obtain ⟨vs, h1, h2, h3, h4⟩ := h.resi hl
    have hne1 : vs.length ≠ 1 := by
      intro e
      rw [h2] at e
      match hrs : fn.results.toList, e with
      | [x], _ => exact hne x hrs
    refine ⟨.tuple vs.toArray, ?_, ?_, fun d g e => by simp [TV.id] at e⟩
    · rw [results_list h1, dif_neg (by simpa using hne1)]
    · refine .tup _ _ (by simp; omega) fun i s hi => ?_
      obtain ⟨v, hv, hrep⟩ := h4 i s hi
      have e : vs.toArray.getD i undef = v := by rw [Array.getD_eq_getD_getElem?, List.getElem?_toArray, hv]; rfl
      rw [e]
      exact hrep
end
section
variable {P : Program} {call : Callf} {mu : FuncId → Bool}
theorem putO_up {st : St} {dst : Option Nat} {v : TV} {u : Nat → TV} : St.putO { st with up := u } dst v = { st.putO dst v with up := u } := by cases dst <;> rfl
theorem eval_up {st : St} {u : Nat → TV} (x : Operand) : St.eval { st with up := u } x = st.eval x := by cases x <;> rfl
theorem step_look {soft : Bool} {dst : Option Nat} {op : Op} (h : lookOp op = true) (st : St) : step P call mu soft dst op st = (val P st op).map (st.putO dst) := by
  unfold lookOp at h
  split at h <;> first | (cases h; done) | (cases soft <;> rfl) | (show (match val P st _ with | some v => some (st.putO dst v) | none => if soft then none else none) = _; cases val P st _ <;> cases soft <;> rfl)
theorem stepO_look {ops : Array Oper} {o : Oper} {st s : St} (hl : lookOp o.op = true) (h : stepO P call mu false ops o st = some s) :
    (s.obj = st.obj ∧ s.gen = st.gen ∧ s.hob = st.hob ∧ s.up = st.up) ∧ ∀ u, stepO P call mu false ops o { st with up := u } = some { s with up := u } := by
  have put : ∀ v : TV, ((st.putO o.dst v).obj = st.obj ∧ (st.putO o.dst v).gen = st.gen ∧ (st.putO o.dst v).hob = st.hob ∧ (st.putO o.dst v).up = st.up) := fun v => by cases o.dst <;> exact ⟨rfl, rfl, rfl, rfl⟩
  have key : ∀ s, stepS P call mu false ops o.dst o.op st = some s → (s.obj = st.obj ∧ s.gen = st.gen ∧ s.hob = st.hob ∧ s.up = st.up) ∧ ∀ u, stepS P call mu false ops o.dst o.op { st with up := u } = some { s with up := u } := by
    intro s h
    have e : ∀ st, stepS P call mu false ops o.dst o.op st = (val P st o.op).map (st.putO o.dst) := fun st => by
      unfold stepS
      rw [Bool.false_and, Bool.false_and, if_neg (by simp)]
      exact step_look hl st
    rw [e] at h
    obtain ⟨v, hv, rfl⟩ := map_some h
    refine ⟨put v, fun u => ?_⟩
    rw [e, val_congr (st := st) (st2 := { st with up := u }) (fun x _ => eval_up x) (fun _ _ _ => rfl) rfl, hv]
    exact congrArg some putO_up
  unfold stepO at h
  split at h
  · rename_i hg
    have e : ∀ st, stepO P call mu false ops o st = stepS P call mu false ops o.dst o.op st := fun st => by
      unfold stepO
      rw [hg]
    simp only [e]
    exact key _ h
  · rename_i j want hg
    split at h
    · rename_i t ht
      have e : ∀ st : St, stepO P call mu false ops o st = (match st.tmp t with
          | .sv (.bool b) => if b = want then stepS P call mu false ops o.dst o.op st else some (st.putO o.dst .skip)
          | .skip => some (st.putO o.dst .skip)
          | _ => none) := fun st => by
        unfold stepO
        rw [hg]
        simp only [ht]
        rfl
      split at h
      · rename_i b hb
        have e2 : ∀ u, stepO P call mu false ops o { st with up := u } = if b = want then stepS P call mu false ops o.dst o.op { st with up := u } else some (St.putO { st with up := u } o.dst .skip) := fun u => by
          rw [e]
          simp only [hb]
        split at h
        · rename_i hw
          obtain ⟨k1, k2⟩ := key _ h
          exact ⟨k1, fun u => by rw [e2, if_pos hw]; exact k2 u⟩
        · rename_i hw
          cases h
          exact ⟨put _, fun u => by rw [e2, if_neg hw]; exact congrArg some putO_up⟩
      · rename_i hb
        cases h
        refine ⟨put _, fun u => ?_⟩
        rw [e]
        simp only [hb]
        exact congrArg some putO_up
      · cases h
    · cases h
theorem ops_look {ops : Array Oper} : ∀ {l : List Oper} {st s : St}, (∀ o ∈ l, lookOp o.op = true) → execOps P call mu false ops l st = some s →
    (s.obj = st.obj ∧ s.gen = st.gen ∧ s.hob = st.hob ∧ s.up = st.up) ∧ ∀ u, execOps P call mu false ops l { st with up := u } = some { s with up := u }
  | [], st, s, _, h => by unfold execOps at h; cases h; exact ⟨⟨rfl, rfl, rfl, rfl⟩, fun _ => rfl⟩
  | o :: r, st, s, hl, h => by
    unfold execOps at h
    cases e : stepO P call mu false ops o st with
    | none => rw [e] at h; cases h
    | some s1 =>
      rw [e] at h
      obtain ⟨⟨a1, a2, a3, a4⟩, b⟩ := stepO_look (hl o List.mem_cons_self) e
      obtain ⟨⟨c1, c2, c3, c4⟩, d⟩ := ops_look (fun x hx => hl x (List.mem_cons_of_mem _ hx)) h
      refine ⟨⟨c1.trans a1, c2.trans a2, c3.trans a3, c4.trans a4⟩, fun u => ?_⟩
      unfold execOps
      rw [b u]
      exact d u
theorem exec_look : ∀ (n : Nat) {c : Code} {st s : St} {e : Ex}, lookCode c = true → exec P call mu n c st = some (e, s) →
    (s.obj = st.obj ∧ s.gen = st.gen ∧ s.hob = st.hob ∧ s.up = st.up) ∧ ∀ u, exec P call mu n c { st with up := u } = some (e, { s with up := u }) := by
  intro n
  induction n with
  | zero => intro c st s e _ h; simp [exec] at h
  | succ n ih =>
    intro c st s e hl h
    cases c with
    | skip => unfold exec at h; cases h; exact ⟨⟨rfl, rfl, rfl, rfl⟩, fun _ => rfl⟩
    | ret => unfold exec at h; cases h; exact ⟨⟨rfl, rfl, rfl, rfl⟩, fun _ => rfl⟩
    | region id ops draw =>
      unfold lookCode at hl
      rw [Bool.and_eq_true] at hl
      obtain ⟨h1, h2⟩ := hl
      cases draw with
      | true => cases h1
      | false =>
        have h : (match execOps P call mu false ops ops.toList st with | some st' => some (Ex.normal, st') | none => none) = some (e, s) := h
        cases he : execOps P call mu false ops ops.toList st with
        | none => rw [he] at h; cases h
        | some s1 =>
          rw [he] at h
          cases h
          obtain ⟨a, b⟩ := ops_look (fun o ho => by rw [Array.all_eq_true'] at h2; exact h2 o (Array.mem_toList_iff.1 ho)) he
          refine ⟨a, fun u => ?_⟩
          show (match execOps P call mu false ops ops.toList { st with up := u } with | some st' => some (Ex.normal, st') | none => none) = _
          rw [b u]
    | seq x y =>
      unfold lookCode at hl
      rw [Bool.and_eq_true] at hl
      unfold exec at h ⊢
      dsimp only at h ⊢
      cases he : exec P call mu n x st with
      | none => rw [he] at h; cases h
      | some r =>
        obtain ⟨e1, s1⟩ := r
        rw [he] at h
        obtain ⟨⟨a1, a2, a3, a4⟩, b⟩ := ih hl.1 he
        cases e1 with
        | normal =>
          obtain ⟨⟨c1, c2, c3, c4⟩, d⟩ := ih hl.2 h
          refine ⟨⟨c1.trans a1, c2.trans a2, c3.trans a3, c4.trans a4⟩, fun u => ?_⟩
          rw [b u]
          exact d u
        | exit i => cases h; exact ⟨⟨a1, a2, a3, a4⟩, fun u => by rw [b u]⟩
        | ret => cases h; exact ⟨⟨a1, a2, a3, a4⟩, fun u => by rw [b u]⟩
        | goto l => cases h; exact ⟨⟨a1, a2, a3, a4⟩, fun u => by rw [b u]⟩
    | cond x t f =>
      unfold lookCode at hl
      rw [Bool.and_eq_true] at hl
      unfold exec at h ⊢
      dsimp only at h ⊢
      simp only [eval_up]
      split at h
      · rename_i b hb
        cases b with
        | true =>
          obtain ⟨k1, k2⟩ := ih hl.1 h
          exact ⟨k1, k2⟩
        | false =>
          obtain ⟨k1, k2⟩ := ih hl.2 h
          exact ⟨k1, k2⟩
      · cases h
    | _ => cases hl
end
theorem enters_of {P : Program} {g : FuncId} {fn : Func} (hf : P.funcs[g]? = some fn) (hn : (fn.name != "runtime.NumGoroutine") = true) {c : Code} (hb : fn.body = some c) : Enters P g := by
  intro args w
  have : ¬ fn.name = "runtime.NumGoroutine" := by simpa [bne] using hn
  simp [callFunc, hf, this, hb]
def Good (P : Program) (good : FuncId → Bool) : Prop := ∀ f fn, good f = true → P.funcs[f]? = some fn → okFn P fn = true
theorem calls_inl {P : Program} {X : Callf} {mu good : FuncId → Bool} {n : Nat} {g : FuncId} {k : Bool} {st : St} {vs : List TV} {r : Ret} {exps : List (Option (List SV))} (h : callN P X mu good (n + 1) g [.st k st vs] = some (r, exps)) :
    ∃ fn c s t, P.funcs[g]? = some fn ∧ good g = true ∧ fn.body = some c ∧ vs.length ≤ fn.ntmps ∧ (k = true → lookCode c = true) ∧ exec P (callN P X mu good n) mu n c (st.enter vs) = some (.ret, s) ∧ retI P s fn.results.toList = some t ∧
      ((k = true ∧ exps = [] ∧ ∃ x, t = .sv x ∧ r = .sv x) ∨ (k = false ∧ exps = [] ∧ r = .st s.leave t)) := by
  have h : (match P.funcs[g]? with
        | some fn => if good g then match fn.body with
            | some c => if vs.length ≤ fn.ntmps ∧ (k = true → lookCode c = true) then inlOf P fn.results.toList k (exec P (callN P X mu good n) mu n c (st.enter vs)) else none
            | none => none
          else none
        | none => none) = some (r, exps) := h
  split at h
  · rename_i fn hf
    split at h
    · rename_i hg
      split at h
      · rename_i c hb
        split at h
        · rename_i hl
          obtain ⟨s, he⟩ := inlOf_some h
          rw [he] at h
          unfold inlOf at h
          simp only at h
          split at h
          · rename_i t ht
            refine ⟨fn, c, s, t, hf, hg, hb, hl.1, hl.2, he, ht, ?_⟩
            cases k with
            | true =>
              simp only [if_true] at h
              split at h
              · rename_i x
                cases h
                exact .inl ⟨rfl, rfl, x, rfl, rfl⟩
              · cases h
            | false =>
              simp only [Bool.false_eq_true, if_false] at h
              cases h
              exact .inr ⟨rfl, rfl, rfl⟩
          · cases h
        · cases h
      · cases h
    · cases h
  · cases h
theorem callN_in {P : Program} {X : Callf} {good : FuncId → Bool} (hgood : Good P good) {mu : FuncId → Bool} {n : Nat} (ih : CallAll P (callN P X mu good n)) : InOk P (callN P X mu good (n + 1)) := by
  intro g k st vs r exps h w0 F I Z N β a w vals hrel hsz hvals
  obtain ⟨fn, c, s, t, hf, hg, hb, hle, hlk, he, hret, hcase⟩ := calls_inl h
  have hok := hgood _ _ hg hf
  simp only [okFn, Bool.and_eq_true, hb, decide_eq_true_eq] at hok
  obtain ⟨⟨⟨hm, hn⟩, hN⟩, hc⟩ := hok
  refine .inl ⟨enters_of hf hn hb, ?_⟩
  have hent := hrel.enter hN hle hsz hvals
  refine calls_of_wp hf hb ?_
  rw [hsz] at hent ⊢
  refine exec_wp ih hm n hc ⟨_, hent⟩ he fun a' w' hr => ?_
  obtain ⟨β', hr⟩ := hr
  obtain ⟨v, hv, hrep, hid⟩ := hr.reti hret
  refine ⟨hr.defers, v, hv, v, rfl, ?_⟩
  have hlv := hrel.leave hr
  rcases hcase with ⟨hk, _, x, rfl, rfl⟩ | ⟨hk, _, rfl⟩
  · obtain ⟨⟨e1, e2, e3, e4⟩, _⟩ := exec_look n (hlk hk) he
    have hback : s.leave = st := leave_enter e1 e2 e3 e4
    rw [hback] at hlv
    refine ⟨hk, β', hlv, ?_⟩
    have : Mut F β' s = Mut F β' st := by rw [← hback]; rfl
    rw [← this]
    exact hrep
  · exact ⟨hk, β', hlv, hrep, hid⟩
theorem callN_look {P : Program} {X : Callf} {mu good : FuncId → Bool} {n : Nat} : LookOk (callN P X mu good (n + 1)) := by
  intro g st st2 vs r e h ho hg hh
  obtain ⟨fn, c, s, t, hf, hgd, hb, hle, hlk, he, hret, hcase⟩ := calls_inl h
  rcases hcase with ⟨_, _, x, rfl, e1⟩ | ⟨hk, _⟩
  · cases e1
    obtain ⟨_, hu⟩ := exec_look n (hlk rfl) he
    have hu := hu (st2.enter vs).up
    have hs : ({ st.enter vs with up := (st2.enter vs).up } : St) = st2.enter vs := by
      unfold St.enter
      rw [ho, hg, hh]
    rw [hs] at hu
    refine ⟨[], ?_⟩
    unfold callN
    simp only [stq, hf, hgd, hb, if_true]
    rw [if_pos ⟨hle, fun _ => hlk rfl⟩, hu]
    unfold inlOf
    simp only
    have hr2 : retI P { s with up := (st2.enter vs).up } fn.results.toList = some (.sv r) := by
      have e0 : ∀ rv, resTV P { s with up := (st2.enter vs).up } rv = resTV P s rv := fun rv => by cases rv <;> rfl
      have e1 : ∀ rs, resIs P { s with up := (st2.enter vs).up } rs = resIs P s rs := fun rs => by
        induction rs with
        | nil => rfl
        | cons a b ih => unfold resIs; rw [e0, ih]
      rw [← hret]
      unfold retI
      split
      · exact e0 _
      · rw [e1]
    rw [hr2]
    rfl
  · cases hk
theorem callN_all {P : Program} {X : Callf} (hX : CallOk P X) {good : FuncId → Bool} (hgood : Good P good) (mu : FuncId → Bool) : ∀ n, CallAll P (callN P X mu good n) := by
  intro n
  induction n with
  | zero => exact ⟨fun g args r exps h => by simp [callN] at h, fun g k st vs r exps h => by simp [callN] at h, fun g st st2 vs r e h => by simp [callN] at h⟩
  | succ n ih =>
    refine ⟨?_, callN_in hgood ih, callN_look⟩
    intro g args r exps h
    unfold callN at h
    split at h
    · rename_i k s vs hq
      have : args = [.st k s vs] := by
        unfold stq at hq
        split at hq
        · cases hq; rfl
        · cases hq
      subst this
      intro w F B vals _ _ hrep _
      exact (hrep 0 _ rfl).elim
    split at h
    · rename_i x hx
      cases h
      exact hX g args r exps hx
    · split at h
      · rename_i fn hf
        split at h
        · rename_i hg
          have hok := hgood _ _ hg hf
          split at h
          · rename_i c hb
            split at h
            · rename_i hle
              simp only [okFn, Bool.and_eq_true, hb, decide_eq_true_eq] at hok
              obtain ⟨⟨⟨hm, hn⟩, hN⟩, hc⟩ := hok
              refine fun w F B vals hF hsz hrep hinj => .inl ⟨enters_of hf hn hb, ?_⟩
              have hent := entry hN hle hF hsz hrep hinj
              refine calls_of_wp hf hb ?_
              have fin : ∀ {st' : St}, (retOf P st' fn.results.toList).map (fun r => (r, expOf st' args)) = some (r, exps) → ∀ a' w', To w F (impB args B) ⟨B, fun _ => undef⟩ fn.ntmps st' a' w' →
                  a'.defers = [] ∧ ∃ v, (results fn a'.tmps).run P w' = .ok v w' ∧ ((fun e w' => ∃ v, e = .returned v ∧ RetRep w w' F v r ∧ Ext (impB args B) w w' ∧ ∀ (i : Nat) (cs : List SV), exps[i]? = some (some cs) → Holds w' F (B i) cs) : Ending → World → Prop) (.returned v) w' := by
                intro st' he a' w' ⟨β, hr⟩
                cases hret : retOf P st' fn.results.toList with
                | none => rw [hret] at he; cases he
                | some r' =>
                  rw [hret] at he
                  cases he
                  obtain ⟨v, hv, hrr⟩ := hr.ret hret
                  refine ⟨hr.defers, v, hv, v, rfl, hrr, hr.ext, fun i cs hi => ?_⟩
                  have ho : st'.obj (N0 + i) 0 = some cs := by
                    unfold expOf at hi
                    rw [List.getElem?_map] at hi
                    rcases Nat.lt_or_ge i args.length with hlt | hge
                    · rw [List.getElem?_range hlt] at hi
                      simp only [Option.map_some, Option.some.injEq] at hi
                      split at hi <;> first | exact hi | cases hi
                    · rw [List.getElem?_eq_none (by simpa using hge)] at hi
                      cases hi
                  have := hr.holds ho
                  have hiN : i < N0 := by
                    rcases Nat.lt_or_ge i args.length with hlt | hge
                    · omega
                    · unfold expOf at hi
                      rw [List.getElem?_eq_none (by simpa using hge)] at hi
                      cases hi
                  have hHN : H0 = N0 + N0 := by decide
                  rw [hr.pin _ _ (by omega) (by omega), show N0 + i - N0 = i by omega] at this
                  exact holds_sub (fun _ hf => .inl hf) this
              split at h
              · rename_i st' he
                refine exec_wp ih hm n hc ⟨_, hent⟩ he fun a' w' hr => ?_
                exact fin h a' w' hr
              · rename_i st' he
                refine exec_wp ih hm n hc ⟨_, hent⟩ he fun a' w' hr => ?_
                exact fin h a' w' hr
              · cases h
            · cases h
          · cases h
        · cases h
      · cases h
theorem callN_ok {P : Program} {X : Callf} (hX : CallOk P X) {good : FuncId → Bool} (hgood : Good P good) (mu : FuncId → Bool) (n : Nat) : CallOk P (callN P X mu good n) := (callN_all hX hgood mu n).1
theorem rowN_ok {P : Program} {X : Callf} (hX : CallOk P X) {good : FuncId → Bool} (hgood : Good P good) {mu : FuncId → Bool} {n : Nat} {g : FuncId} {args : List Arg} {r : Ret} {exps : List (Option (List SV))} (h : rowN P X mu good n g args = some (r, exps)) :
  ∀ (w : World) (F : Nat → Prop) (B : Nat → Nat) (vals : Array Value), (∀ b, F b → b < w.heap.size) → vals.size = args.length →
    (∀ (i : Nat) (x : Arg), args[i]? = some x → ArgRep w F (vals.getD i undef) (B i) x) →
    (∀ (i j : Nat) (x y : Arg), args[i]? = some x → args[j]? = some y → isImp x = true → isImp y = true → B i = B j → i = j) →
    Invk P g vals w fun e w' => ∃ v, e = .returned v ∧ RetRep w w' F v r ∧ Ext (impB args B) w w' ∧ ∀ (i : Nat) (cs : List SV), exps[i]? = some (some cs) → Holds w' F (B i) cs := by
  have ih := callN_all hX hgood mu n
  unfold rowN at h
  split at h
  · rename_i fn hf
    split at h
    · rename_i hg
      have hok := hgood _ _ hg hf
      split at h
      · rename_i c hb
        split at h
        · rename_i hle
          simp only [okFn, Bool.and_eq_true, hb, decide_eq_true_eq] at hok
          obtain ⟨⟨⟨hm, hn⟩, hN⟩, hc⟩ := hok
          refine fun w F B vals hF hsz hrep hinj => .inl ⟨enters_of hf hn hb, ?_⟩
          have hent := entry hN hle hF hsz hrep hinj
          refine calls_of_wp hf hb ?_
          have fin : ∀ {st' : St}, (retRow P st' fn.results.toList).map (fun r => (r, expOf st' args)) = some (r, exps) → ∀ a' w', To w F (impB args B) ⟨B, fun _ => undef⟩ fn.ntmps st' a' w' →
              a'.defers = [] ∧ ∃ v, (results fn a'.tmps).run P w' = .ok v w' ∧ ((fun e w' => ∃ v, e = .returned v ∧ RetRep w w' F v r ∧ Ext (impB args B) w w' ∧ ∀ (i : Nat) (cs : List SV), exps[i]? = some (some cs) → Holds w' F (B i) cs) : Ending → World → Prop) (.returned v) w' := by
            intro st' he a' w' ⟨β, hr⟩
            cases hret : retRow P st' fn.results.toList with
            | none => rw [hret] at he; cases he
            | some r' =>
              rw [hret] at he
              cases he
              obtain ⟨v, hv, hrr⟩ := hr.rowRet hret
              refine ⟨hr.defers, v, hv, v, rfl, hrr, hr.ext, fun i cs hi => ?_⟩
              have ho : st'.obj (N0 + i) 0 = some cs := by
                unfold expOf at hi
                rw [List.getElem?_map] at hi
                rcases Nat.lt_or_ge i args.length with hlt | hge
                · rw [List.getElem?_range hlt] at hi
                  simp only [Option.map_some, Option.some.injEq] at hi
                  split at hi <;> first | exact hi | cases hi
                · rw [List.getElem?_eq_none (by simpa using hge)] at hi
                  cases hi
              have := hr.holds ho
              have hiN : i < N0 := by
                rcases Nat.lt_or_ge i args.length with hlt | hge
                · omega
                · unfold expOf at hi
                  rw [List.getElem?_eq_none (by simpa using hge)] at hi
                  cases hi
              have hHN : H0 = N0 + N0 := by decide
              rw [hr.pin _ _ (by omega) (by omega), show N0 + i - N0 = i by omega] at this
              exact holds_sub (fun _ hf => .inl hf) this
          split at h
          · rename_i st' he
            refine exec_wp ih hm n hc ⟨_, hent⟩ he fun a' w' hr => ?_
            exact fin h a' w' hr
          · rename_i st' he
            refine exec_wp ih hm n hc ⟨_, hent⟩ he fun a' w' hr => ?_
            exact fin h a' w' hr
          · cases h
        · cases h
      · cases h
    · cases h
  · cases h
theorem callN_calls {P : Program} {X : Callf} (hX : CallOk P X) {good : FuncId → Bool} (hgood : Good P good) {mu : FuncId → Bool} {n : Nat} {f : FuncId} {args : List SV} {s : SV} {exps : List (Option (List SV))} (h : callN P X mu good n f (args.map Arg.sv) = some (.sv s, exps))
    (hE : Enters P f) {w : World} {vals : Array Value} (hsz : vals.size = args.length) (hrep : ∀ (i : Nat) (x : SV), args[i]? = some x → Rep w (fun _ => False) (vals.getD i undef) x) :
    Calls P f vals w fun e w' => ∃ v, e = .returned v ∧ Rep w' (fun _ => False) v s ∧ Below w.heap.size w w' := by
  have hns : ∀ (i : Nat) (x : Arg), (args.map Arg.sv)[i]? = some x → ∃ y, args[i]? = some y ∧ x = .sv y := by
    intro i x hx
    rw [List.getElem?_map] at hx
    cases hy : args[i]? with
    | none => rw [hy] at hx; cases hx
    | some y => rw [hy] at hx; cases hx; exact ⟨y, rfl, rfl⟩
  have key : Invk P f vals w fun e w' => ∃ v, e = .returned v ∧ Rep w' (fun _ => False) v s ∧ Below w.heap.size w w' := by
   refine ((callN_ok hX hgood mu n) f _ _ _ h w (fun _ => False) (fun _ => 0) vals (fun _ hb => hb.elim) (by simpa using hsz) (fun i x hx => ?_) (fun i j x y hx hy hi => ?_)).mono ?_
   · obtain ⟨y, hy, rfl⟩ := hns i x hx
     exact hrep i y hy
   · obtain ⟨y, hy, rfl⟩ := hns i x hx
     simp [isImp] at hi
   · rintro e w' ⟨v, rfl, hr, he, _⟩
     refine ⟨v, rfl, hr, Ext.below (he.mono ?_ ?_)⟩
     · rintro b ⟨i, x, hx, hi, _⟩
       obtain ⟨y, hy, rfl⟩ := hns i x hx
       simp [isImp] at hi
     · intro b hb
       exact hb.elim
  rcases key with ⟨_, h⟩ | ⟨v, h, _⟩
  · exact h
  · have := hE vals w
    rw [this] at h
    cases h
end Go.Ev
namespace Go.Ev
open Go.RowKit
section
variable {H : Type} {enc : TypeId × Value → H} {P : Program} {w : World} {sp : Nat → Bool} {held : Bool}
end
end Go.Ev
namespace Go.Proofs.YticocojomlfhgaaGreatDoor
open Go.RowKit Go.WideShapes Go.ChangeShapes
section
variable {H : Type} {enc : TypeId × Value → H} {P : Program}
theorem post_of_below {f : Func} {s : ChangeSpec} {apart fresh handsOn again : Bool} {W W' : World} {args : Array Value} {v : Value} {ds gs : List (DataW H)} {before pa pv : List MemPlace}
    (hW : DataW.Whole enc P f.params.toList s.vars apart W args.toList ds gs before)
    (hres : ∀ (b : Nat) (sp : Nat → Bool) (hd : Bool), DataW.TrodAll enc P W' b sp hd f.resultTypes.toList (v.resultList f.resultTypes.size) (s.fn H (ds ++ gs)).results [])
    (hargs : ∀ sp : Nat → Bool, (∀ p ∈ before, sp p.block = true) → DataW.TrodAll enc P W' 0 sp true f.params.toList args.toList (s.fn H (ds ++ gs)).args pa)
    (hvars : ∀ sp : Nat → Bool, (∀ p ∈ before, sp p.block = true) → DataW.TrodVars enc P W' sp s.vars (s.fn H (ds ++ gs)).vars pv)
    (hps : before = pa ++ pv) (hb : Below W.heap.size W W')
    (hok : ∀ (j : Nat) (t : TypeId) (r : Value), f.resultTypes[j]? = some t → (v.resultList f.resultTypes.size)[j]? = some r → Value.okWide P W' .any 0 t r) :
    s.post enc P f apart fresh handsOn again W args v W' := by
  have hlt : ∀ p ∈ before, p.block < W.heap.size := fun p hp => hW.lt p hp
  have hold : ∀ p ∈ before, (fun b => decide (b < W.heap.size)) p.block = true := fun p hp => by simpa using hlt p hp
  refine ⟨ds, gs, before, [], pa, pv, hW, hres _ _ _, hargs _ hold, hvars _ hold, World.keptBut_mono (fun p hp => ⟨hp, ?_⟩) (hb.frame (· ∈ before)), fun _ => ?_⟩
  · rw [hps, List.mem_append] at hp
    exact Or.inr hp
  · obtain ⟨_, _, _, _, _, hz, hn⟩ := hW
    refine ⟨hok, _, _, ([] ++ pa) ++ pv, ⟨[] ++ pa, pv, trodAll_append (hargs _ (fun _ _ => rfl)) (hres _ _ _), hvars _ (fun _ _ => rfl), rfl, ?_, ?_⟩, ?_⟩
    · intro b off hp
      have hin : MemPlace.cell b off ∈ before := by rw [hps]; simpa using hp
      rw [hb.frozen (hlt _ hin)]
      exact hz b off hin
    · intro ha
      have := hn ha
      rw [hps] at this
      simpa using this
    · intro p hp _
      rw [hps]
      simpa using hp
end
end Go.Proofs.YticocojomlfhgaaGreatDoor
