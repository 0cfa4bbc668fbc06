/- Part 4 of the proof: the evaluator, contracts of functions and their plain laws (joined by program). No condition. -/
import Derived.Test.YtcfjiolldehegaaGreatDoorPart3
import Derived.Scope
import Derived.DataReads
import Derived.Carry
import Derived.Below
import Derived.ChangeSame
import Derived.ProofKit
import Derived.KernelRfl
import Derived.Laws.BitsLemmas
import Derived.Laws.Bits64
set_option linter.unusedVariables false
set_option linter.unusedSimpArgs false
set_option maxRecDepth 100000
namespace Go.Ev
open Go.RowKit
def Ex.cv:Ex->Exit
 | .normal => .normal
 | .exit i => .exit i
 | .ret => .ret
 | .goto l => .goto l
def SW (P:Program) (c:Code) (Q:Exit->Act->World->Prop):Nat->Exit->Act->World->Prop
 |0,_,_,_=>False
 |k+1,e,a,w=>match e with
  | .goto l=>match findLabel c l with
   |some rest=>rest.wp P (SW P c Q k) a w
   |none=>Q (.goto l) a w
  |e=>Q e a w
theorem wp_scope_n {P:Program} {c:Code} {Q:Exit->Act->World->Prop} (n:Nat) {a:Act} {w:World} (h:c.wp P (SW P c Q n) a w):(Code.scope c).wp P Q a w:=by
 intro b k cs
 have key : ∀n (b':Code) a w,b'.wp P (SW P c Q n) a w -> ∃e a' w',Q e a' w'/\Arrives P (lone (b.at a (.code b' :: .inScope c::k)) cs w) b k cs e a' w':=by
  intro n
  induction n with
  |zero=>intro b' a w h;obtain⟨e,a₁,w₁,hq,_⟩:=h b (.inScope c::k) cs;exact hq.elim
  |succ n ih=>
   intro b' a w h
   obtain⟨e,a₁,w₁,hq,harr⟩:=h b (.inScope c::k) cs
   cases e with
   |normal=>exact⟨.normal,a₁,w₁,hq,Steps.trans harr (.one step_inScope)⟩
   |exit id=>exact⟨.exit id,a₁,w₁,hq,fun k' hk=>harr k' (by simp[exitTo,hk])⟩
   |goto l=>
    have hq:(match findLabel c l with|some rest=>rest.wp P (SW P c Q n) a₁ w₁|none=>Q (.goto l) a₁ w₁):=hq
    cases hl:findLabel c l with
    |some rest=>
     rw[hl]at hq
     obtain⟨e₂,a₂,w₂,hq₂,harr₂⟩:=ih rest a₁ w₁ hq
     exact⟨e₂,a₂,w₂,hq₂,.of_steps (harr _ (by simp[gotoIn,hl])) harr₂⟩
    |none=>
     rw[hl]at hq
     exact⟨.goto l,a₁,w₁,hq,fun k' hk=>harr k' (by simp[gotoIn,hl,hk])⟩
   |ret=>exact⟨_,a₁,w₁,hq,harr⟩
   |panic ch=>exact⟨_,a₁,w₁,hq,harr⟩
   |outgrown=>exact⟨_,a₁,w₁,hq,harr⟩
 obtain⟨e,a',w',hq,harr⟩:=key n c a w h
 exact⟨e,a',w',hq,.of_steps (.one step_scope) harr⟩
theorem ok_label {N:Nat} : ∀ {c:Code} {l:Nat} {rest:Code},okCode N c=true->findLabel c l=some rest->okCode N rest=true:=by
 intro c
 induction c with
 |seq a b iha ihb=>
  intro l rest hok h
  unfold okCode at hok
  simp only[Bool.and_eq_true]at hok
  unfold findLabel at h
  split at h
  ·rename_i r hr
   cases h
   unfold okCode
   simp only[Bool.and_eq_true]
   exact⟨iha hok.1 hr,hok.2⟩
  ·exact ihb hok.2 h
 |label l' =>
  intro l rest hok h
  unfold findLabel at h
  split at h
  ·cases h;rfl
  ·cases h
 |_=>intro l rest hok h;simp[findLabel]at h
section
variable {P:Program} {w0 w:World} {F I:Nat->Prop} {Z:Zy} {N:Nat} {β:Nat->Nat->Nat} {st:St} {a:Act}
theorem region_st {call:Callf} (hcall:CallAll P Z.gl call) {mu:FuncId->Bool} {id:Nat} {ops:Array Oper} {draw:Bool} (hok:okCode N (.region id ops draw)=true) {st':St} (hr:To w0 F I Z N st a w)
  (he:(if (draw&&looseR mu ops)=true then execC P call mu ops (ordI ops) st else execOps P call mu draw ops ops.toList st)=some st') {Q:Exit->Act->World->Prop} (hQ : ∀a' w',To w0 F I Z N st' a' w'->Q .normal a' w') :
  match draw with
  |false=>wpOps P ops Q (List.range ops.size) a w
  |true=>wpAny P .any ops Q ops.size (Array.replicate ops.size false) a { w with drawn:=w.drawn+1 }:=by
 unfold okCode at hok
 simp only[Bool.and_eq_true]at hok
 obtain⟨h1,h2⟩:=hok
 have hd : ∀o∈ops.toList,∀d,o.dst=some d->d<N:=by
  intro o ho d hdst
  rw[Array.all_eq_true']at h1
  have:=h1 o (Array.mem_toList_iff.1 ho)
  rw[hdst]at this
  simpa using this
 cases draw with
 |false=>
  rw[Bool.false_and,if_neg (by simp)]at he
  have:=seq_wpOps (F:=F) (I:=I) (w0:=w0) hcall hd hQ (l:=ops.toList) (k:=0) rfl he hr
  rw[List.range_eq_range']
  simpa using this
 |true=>
  rw[Bool.true_and]at he
  by_cases hlo:looseR mu ops=true
  ·rw[if_pos hlo]at he
   have hokC:okDrawC ops=true:=by
    unfold looseR at hlo
    rw[Bool.and_eq_true]at hlo
    exact hlo.2
   obtain⟨β,hr⟩:=hr
   have hr':To w0 F I Z N st a { w with drawn:=w.drawn+1 }:=⟨β,hr.world rfl rfl rfl rfl⟩
   obtain⟨hlen,hperm,_,hedge⟩:=drawC_parts hokC
   have:=any_wpC (F:=F) (I:=I) (w0:=w0) hcall hd hokC hQ (rest:=ordI ops) (listed:=Array.replicate ops.size false) (fun j o hj hl=>by
    rw[Array.getD_eq_getD_getElem?,Array.getElem?_replicate]at hl
    split at hl<;>cases hl) (by simp) (List.Sublist.refl _) (fun i=>by
    constructor
    ·intro h
     obtain⟨_,o,ho,_⟩:=hedge i h
     have hi:=(Array.getElem?_eq_some_iff.1 ho).1
     refine⟨hi,?_⟩
     rw[Array.getD_eq_getD_getElem?,Array.getElem?_replicate,if_pos hi]
     rfl
    ·rintro⟨h,_⟩
     exact hperm i h) he hr'
   rw[hlen]at this
   exact this
  rw[if_neg hlo]at he
  have hok:okDraw ops=true:=by
   simp only[Bool.not_true,Bool.false_or,Bool.or_eq_true,Bool.and_eq_true]at h2
   rcases h2 with h2|h2
   ·exact h2
   ·cases hx:okDraw ops with
    |true=>rfl
    |false=>
     exfalso
     apply hlo
     unfold looseR
     rw[hx,h2.1,h2.2]
     rfl
  obtain⟨β,hr⟩:=hr
  have hr':To w0 F I Z N st a { w with drawn:=w.drawn+1 }:=⟨β,hr.world rfl rfl rfl rfl⟩
  have hex:=execI_range (l:=ops.toList) (k:=0) rfl he
  have hl:ops.toList.length=ops.size:=Array.length_toList
  rw[hl]at hex
  have:=any_wp (F:=F) (I:=I) (w0:=w0) hcall hd hok hQ (rest:=List.range' 0 ops.size) (listed:=Array.replicate ops.size false) (fun j o hj hl=>by
   rw[Array.getD_eq_getD_getElem?,Array.getElem?_replicate]at hl
   split at hl<;>cases hl) (by simp) (List.pairwise_lt_range') (fun i=>by
   rw[List.mem_range'_1]
   constructor
   ·rintro⟨_,h⟩
    refine⟨by omega,?_⟩
    rw[Array.getD_eq_getD_getElem?,Array.getElem?_replicate,if_pos (by omega)]
    rfl
   ·rintro⟨h,_⟩
    omega) hex hr'
  rw[List.length_range']at this
  exact this
theorem region_wp {call:Callf} (hcall:CallAll P Z.gl call) (hm:P.follows .mixedOrders=true) {mu:FuncId->Bool} {id:Nat} {ops:Array Oper} {draw:Bool} (hok:okCode N (.region id ops draw)=true) {st':St} (hr:To w0 F I Z N st a w)
  (he:(if (draw&&looseR mu ops)=true then execC P call mu ops (ordI ops) st else execOps P call mu draw ops ops.toList st)=some st') {Q:Exit->Act->World->Prop} (hQ : ∀a' w',To w0 F I Z N st' a' w'->Q .normal a' w'):(Code.region id ops draw).wp P Q a w:=by
 have:=region_st hcall hok hr he hQ
 cases draw with
 |false=>exact wp_region this
 |true=>exact wp_region_any hm this
theorem exec_wp {call:Callf} (hcall:CallAll P Z.gl call) (hm:P.follows .mixedOrders=true) {mu:FuncId->Bool} : ∀ (n:Nat) {c:Code} {st:St} {a:Act} {w:World} {e:Ex} {st':St} {Q:Exit->Act->World->Prop},okCode N c=true->To w0 F I Z N st a w ->
  exec P call mu n c st=some (e,st')->(∀a' w',To w0 F I Z N st' a' w'->Q e.cv a' w')->c.wp P Q a w:=by
 intro n
 induction n with
 |zero=>intro c st a w e st' Q _ _ h;simp[exec]at h
 |succ n ih=>
  intro c st a w e st' Q hok hr h hQ
  cases c with
  |skip=>simp only[exec,Option.some.injEq,Prod.mk.injEq]at h;obtain⟨rfl,rfl⟩:=h;exact wp_skip (hQ _ _ hr)
  |region id ops draw=>
   unfold exec at h
   simp only at h
   split at h
   ·rename_i s0 hs0
    have hr0:To w0 F I Z N s0 a w:=by
     unfold preFrz at hs0
     split at hs0
     ·obtain⟨β,hb⟩:=hr
      exact⟨β,hb.frzAll hs0⟩
     ·cases hs0;exact hr
    split at h
    ·rename_i s hs
     cases h
     exact region_wp hcall hm hok hr0 hs hQ
    ·cases h
   ·cases h
  |seq x y=>
   unfold okCode at hok
   simp only[Bool.and_eq_true]at hok
   unfold exec at h
   simp only at h
   split at h
   ·rename_i s hs
    exact wp_seq (ih hok.1 hr hs fun a' w' hr'=>ih hok.2 hr' h hQ)
   ·rename_i hne
    refine wp_seq (ih hok.1 hr h fun a' w' hr' => ?_)
    have hq:=hQ a' w' hr'
    cases e with
    |normal=>exact(hne _ h).elim
    |exit i=>exact hq
    |ret=>exact hq
    |goto l=>exact hq
  |cond x t f=>
   unfold okCode at hok
   simp only[Bool.and_eq_true]at hok
   unfold exec at h
   simp only at h
   split at h
   ·rename_i b hb
    obtain⟨β,hrel⟩:=hr
    have hv:=hrel.eval x
    rw[hb]at hv
    refine wp_cond (rep_bool hv) ?_
    cases b with
    |true=>exact ih hok.1 ⟨β,hrel⟩ h hQ
    |false=>exact ih hok.2 ⟨β,hrel⟩ h hQ
   ·cases h
  |block id b=>
   unfold exec at h
   simp only at h
   refine wp_block ?_
   split at h
   ·rename_i i s hs
    refine ih hok hr hs fun a' w' hr' => ?_
    show if i=id then Q .normal a' w' else Q (.exit i) a' w'
    split at h
    ·rename_i hi
     cases h
     rw[if_pos hi]
     exact hQ a' w' hr'
    ·rename_i hi
     cases h
     rw[if_neg hi]
     exact hQ a' w' hr'
   ·rename_i hne
    refine ih hok hr h fun a' w' hr' => ?_
    have hq:=hQ a' w' hr'
    cases e with
    |normal=>exact hq
    |exit i=>exact(hne _ _ h).elim
    |ret=>exact hq
    |goto l=>exact hq
  |loop b=>
   have key : ∀ (m:Nat),m<=n+1 -> ∀ {st:St} {a:Act} {w:World},To w0 F I Z N st a w->exec P call mu m (.loop b) st=some (e,st')->Code.rounds P b Q m a w:=by
    intro m
    induction m with
    |zero=>intro _ st a w _ h;simp[exec]at h
    |succ m ihm=>
     intro hle st a w hr h
     rw[rounds_succ]
     unfold exec at h
     simp only at h
     split at h
     ·rename_i s hs
      have hs':=exec_mono (CallLe.refl call) (show m<=n by omega) hs
      exact ih hok hr hs' fun a' w' hr'=>ihm (by omega) hr' h
     ·rename_i hne
      have h':=exec_mono (CallLe.refl call) (show m<=n by omega) h
      refine ih hok hr h' fun a' w' hr' => ?_
      have hq:=hQ a' w' hr'
      cases e with
      |normal=>exact(hne _ h).elim
      |exit i=>exact hq
      |ret=>exact hq
      |goto l=>exact hq
   exact wp_loop_rounds (n+1) (key (n+1) (Nat.le_refl _) hr h)
  |rangeFunc f p x y=>simp[exec]at h
  |exit id=>simp only[exec,Option.some.injEq,Prod.mk.injEq]at h;obtain⟨rfl,rfl⟩:=h;exact wp_exit (hQ _ _ hr)
  |scope b=>
   have h:jumps (exec P call mu n) b n (exec P call mu n b st)=some (e,st'):=h
   have hb:okCode N b=true:=hok
   have key : ∀ (k:Nat) {b':Code} {s:St} {a:Act} {w:World},okCode N b'=true->To w0 F I Z N s a w->jumps (exec P call mu n) b k (exec P call mu n b' s)=some (e,st')->b'.wp P (SW P b Q k) a w:=by
    intro k
    induction k with
    |zero=>intro b' s a w _ _ h;simp[jumps]at h
    |succ k ihk=>
     intro b' s a w hok' hr h
     cases hx:exec P call mu n b' s with
     |none=>rw[hx]at h;simp[jumps]at h
     |some x=>
      obtain⟨x,s1⟩:=x
      rw[hx]at h
      refine ih hok' hr hx fun a' w' hr' => ?_
      cases x with
      |goto l=>
       show (match findLabel b l with|some rest=>rest.wp P (SW P b Q k) a' w'|none=>Q (.goto l) a' w')
       unfold jumps at h
       dsimp only at h
       cases hl:findLabel b l with
       |some rest=>
        rw[hl]at h
        exact ihk (ok_label hb hl) hr' h
       |none=>
        rw[hl]at h
        cases h
        exact hQ a' w' hr'
      |normal=>cases h;exact hQ a' w' hr'
      |exit i=>cases h;exact hQ a' w' hr'
      |ret=>cases h;exact hQ a' w' hr'
   exact wp_scope_n n (key n hb hr h)
  |label l=>simp only[exec,Option.some.injEq,Prod.mk.injEq]at h;obtain⟨rfl,rfl⟩:=h;exact wp_label (hQ _ _ hr)
  |goto l=>simp only[exec,Option.some.injEq,Prod.mk.injEq]at h;obtain⟨rfl,rfl⟩:=h;exact wp_goto (hQ _ _ hr)
  |ret=>simp only[exec,Option.some.injEq,Prod.mk.injEq]at h;obtain⟨rfl,rfl⟩:=h;exact wp_ret (hQ _ _ hr)
  |refuse why=>simp[exec]at h
end
end Go.Ev
namespace Go.Ev
open Go.RowKit
noncomputable def resF (tmps:Array Value):ResultVar->Sem Value
 | .tmp t=>pure (tmps.getD t undef)
 | .cell a t=>do loadVar t (<- asAddr (tmps.getD a undef))
theorem results_list {P:Program} {w:World} {fn:Func} {tmps:Array Value} {vs:List Value} (h:(fn.results.toList.mapM (resF tmps)).run P w = .ok vs w) :
  (results fn tmps).run P w = .ok (if h:vs.toArray.size=1 then vs.toArray[0] else .tuple vs.toArray) w:=by
 unfold results
 have e:(fn.results.mapM fun r=>match r with
  | .tmp t=>pure (tmps.getD t undef)
  | .cell a t=>do loadVar t (<- asAddr (tmps.getD a undef)):Sem (Array Value))=List.toArray <$> fn.results.toList.mapM (resF tmps):=by
  rw[Array.mapM_eq_mapM_toList]
  congr 1
 simp only[Sem.run_bind,Sem.run_pure]
 erw [e]
 simp only[Sem.run_map,h,Result.andThen_ok]
section
variable {P:Program} {w0 w:World} {F I:Nat->Prop} {Z:Zy} {N:Nat} {β:Nat->Nat->Nat} {st:St} {a:Act}
theorem rep_sub {v:Value} {s:SV} (hr:Rep w (Mut F β st) v s):Rep w F v s:=
 Rep.mono (w:=w) (fun _ _ _=>rfl) (fun _ _ hf => .inl hf) hr
theorem Rel.res (h:Rel w0 F I Z N β st a w) {r:ResultVar} {t:TV} (hr:resTV P st r=some t) : ∃v,(resF a.tmps r).run P w = .ok v w/\RepT β w (Mut F β st) v t:=by
 cases r with
 |tmp u=>
  simp only[resTV,Option.some.injEq]at hr
  subst hr
  exact⟨_,rfl,h.tmps u⟩
 |cell x t=>
  unfold resTV at hr
  simp only at hr
  split at hr
  ·rename_i sh d g off hsh htmp
   split at hr
   ·rename_i cs hcs
    cases hl:loadC sh (cs.drop off) with
    |none=>rw[hl]at hr;cases hr
    |some s=>
     rw[hl]at hr
     cases hr
     have hv:=h.tmps x
     rw[htmp]at hv
     obtain⟨us,ty,hb,hall⟩:=h.objs d g cs hcs
     obtain⟨v,hv',hrep⟩:=load_sound (P:=P) (w:=w) (M:=Mut F β st) (a:=⟨β d g,off,none⟩) hsh (cells:=cs.drop off) (s:=s) (fun i y hi=>by
      rw[List.getElem?_drop]at hi
      obtain⟨_,u,hu,hru⟩:=hall _ y hi
      refine⟨u,?_,hru⟩
      rw[add_mk]
      simp[World.cell?,hb,hu]) hl
     refine⟨v,?_,hrep⟩
     have hv2:a.tmps.getD x undef = .pointer (some ⟨β d g,off,none⟩):=hv
     simp[resF,hv2,asAddr,hv']
   ·cases hr
  ·cases hr
theorem Rel.out (h:Rel w0 F I Z N β st a w) {v:Value} {t:TV} {s:SV} (hr:RepT β w (Mut F β st) v t) (ho:outSV st t=some s):Rep w F v s:=by
 unfold outSV at ho
 split at ho
 ·cases ho;exact rep_sub hr
 ·cases ho;rw[show v = .slice none 0 0 from hr];exact .sl0 _ _ _ (Nat.le_refl _)
 ·rename_i d g size off n
  split at ho
  ·rename_i hd
   split at ho
   ·rename_i cs hcs
    cases ho
    obtain⟨cap,us0,ty0,rfl,hn,hb0,hsz⟩:=hr
    obtain⟨us,ty,hb,hall⟩:=h.objs d g cs hcs
    have hown:=(h.own d g (by rw[hcs];rfl)).1 (.inl hd)
    have hget : ∀i y,((cs.drop off).take (n*size))[i]?=some y->cs[off+i]?=some y:=by
     intro i y hi
     rcases Nat.lt_or_ge i (n*size) with hlt|hge
     ·rw[List.getElem?_take_of_lt hlt,List.getElem?_drop]at hi;exact hi
     ·rw[List.getElem?_eq_none (by simp;omega)]at hi;cases hi
    refine .sl _ _ _ hn _ (fun i=>us.getD (off+i) undef) (fun hf=>by
     rcases hown with h1|⟨h1,h2⟩
     ·exact absurd (h.old _ hf) (by simpa using h1)
     ·exact(h.imps _ h2).2 h1 hf) (fun i y hi => ?_) (fun i y hi => ?_)
    ·obtain⟨_,u,hu,_⟩:=hall _ y (hget i y hi)
     rw[add_mk]
     simp[World.cell?,hb,hu]
    ·obtain⟨_,u,hu,hru⟩:=hall _ y (hget i y hi)
     have e:us.getD (off+i) undef=u:=by rw[Array.getD_eq_getD_getElem?,hu];rfl
     show Rep w F (us.getD (off+i) undef) y
     rw[e]
     exact rep_sub hru
   ·cases ho
  ·cases ho
 ·cases ho
theorem Rel.resl (h:Rel w0 F I Z N β st a w) : ∀ {rs:List ResultVar} {l:List SV},resSVs P st rs=some l ->
  ∃vs,(rs.mapM (resF a.tmps)).run P w = .ok vs w/\vs.length=rs.length/\l.length=rs.length /\ ∀ (i:Nat) s,l[i]?=some s -> ∃v,vs[i]?=some v/\Rep w F v s:=by
 intro rs
 induction rs with
 |nil=>intro l hl;cases hl;exact⟨[],rfl,rfl,rfl,fun i s hi=>by simp at hi⟩
 |cons r rs ih=>
  intro l hl
  unfold resSVs at hl
  split at hl
  ·rename_i t l' ht hl'
   split at hl
   ·rename_i s hs
    cases hl
    obtain⟨vs,h1,h2,h3,h4⟩:=ih hl'
    obtain⟨v,hv,hrep⟩:=h.res ht
    refine⟨v::vs,?_,by simp[h2],by simp[h3],fun i y hi => ?_⟩
    ·simp[List.mapM_cons,hv,h1]
    ·cases i with
     |zero=>simp only[List.getElem?_cons_zero,Option.some.injEq]at hi ⊢;subst hi;exact⟨v,rfl,h.out hrep hs⟩
     |succ i=>simp only[List.getElem?_cons_succ]at hi ⊢;exact h4 i y hi
   ·cases hl
  ·cases hl
theorem Rel.rowRet (h:Rel w0 F I Z N β st a w) {fn:Func} {r:Ret} (hr:retRow P st fn.results.toList=some r) (hZ : ¬Z.old:=by exact fun h=>h) : ∃v,(results fn a.tmps).run P w = .ok v w/\RetRep w0 w F v r:=by
 unfold retRow at hr
 split at hr
 ·rename_i rv hrs
  split at hr
  ·rename_i d g size off n ht
   split at hr
   ·rename_i hd
    cases hcs:st.obj d g with
    |none=>rw[hcs]at hr;cases hr
    |some cs=>
     rw[hcs]at hr
     cases hr
     obtain⟨v,hv,cap,us',ty',h1,h2,h3,h4⟩:=h.res ht
     obtain⟨us,ty,hb,hall⟩:=h.objs d g cs hcs
     refine⟨v,results_list (vs:=[v]) (by rw[hrs];simp[hv]),β d g,cap,us',ty',h1,h2,h3,h4,((h.own d g (by rw[hcs];rfl)).1 (.inl hd)).resolve_right (fun x=>hZ x.1),us,ty,hb,fun i s hi => ?_⟩
     obtain⟨h1,u,hu,hru⟩:=hall i s hi
     refine⟨h1,u,hu,Rep.mono (w:=w) (fun _ _ _=>rfl) (fun b _ hm => ?_) hru⟩
     rcases hm with hm|rfl
     ·exact .inl hm
     ·exact .inr ⟨d,g,by rw[hcs];rfl,rfl⟩
   ·cases hr
  ·cases hr
 ·cases hr
theorem Rel.ret (h:Rel w0 F I Z N β st a w) {fn:Func} {r:Ret} (hr:retOf P st fn.results.toList=some r) (hZ : ¬Z.old:=by exact fun h=>h) : ∃v,(results fn a.tmps).run P w = .ok v w/\RetRep w0 w F v r:=by
 unfold retOf at hr
 split at hr
 ·rename_i rv hrs
  have one : ∀ {t:TV},resTV P st rv=some t -> ∃v,(results fn a.tmps).run P w = .ok v w/\RepT β w (Mut F β st) v t:=by
   intro t ht
   obtain⟨v,hv,hrep⟩:=h.res ht
   exact⟨v,results_list (vs:=[v]) (by rw[hrs];simp[hv]),hrep⟩
  split at hr
  ·rename_i d g ht
   split at hr
   ·rename_i hd
    cases hcs:st.obj d g with
    |none=>rw[hcs]at hr;cases hr
    |some cs=>
     rw[hcs]at hr
     cases hr
     obtain⟨v,hv,hrep⟩:=one ht
     obtain⟨us,ty,hb,hall⟩:=h.objs d g cs hcs
     refine⟨v,hv,β d g,hrep,((h.own d g (by rw[hcs];rfl)).1 (.inl hd)).resolve_right (fun x=>hZ x.1),us,ty,hb,fun i s hi => ?_⟩
     obtain⟨h1,u,hu,hru⟩:=hall i s hi
     refine⟨h1,u,hu,Rep.mono (w:=w) (fun _ _ _=>rfl) (fun b _ hm => ?_) hru⟩
     rcases hm with hm|rfl
     ·exact .inl hm
     ·exact .inr ⟨d,g,by rw[hcs];rfl,rfl⟩
   ·split at hr
    ·rename_i hH
     split at hr
     ·rename_i ts hts
      split at hr
      ·rename_i hpl
       cases hr
       obtain⟨v,hv,hrep⟩:=one ht
       obtain⟨h1,h2,us,ty,hb,hall⟩:=h.hobs d g ts hts
       refine⟨v,hv,β d g,us,ty,hrep,((h.own d g (by rw[h2];rfl)).1 (.inr hH)).resolve_right (fun x=>hZ x.1),hb,fun i t ht => ?_⟩
       obtain⟨u,hu,h1u,hru,_⟩:=hall i t ht
       have hp:=List.all_eq_true.1 hpl t (List.mem_of_getElem? ht)
       refine⟨hp,u,hu,h1u,fun β2 => ?_⟩
       cases t with
       |sv x=>
        refine Rep.mono (w:=w) (fun _ _ _=>rfl) (fun b _ hm => ?_) hru
        rcases hm with hm|rfl
        ·exact .inl hm
        ·exact .inr ⟨d,g,by rw[h2];rfl,rfl⟩
       |nil=>exact hru
       |_=>cases hp
      ·cases hr
     ·cases hr
    ·cases hr
  ·rename_i t ht hn
   cases ho:outSV st t with
   |none=>rw[ho]at hr;cases hr
   |some s=>
    rw[ho]at hr
    cases hr
    obtain⟨v,hv,hrep⟩:=one hn
    exact⟨v,hv,h.out hrep ho⟩
  ·cases hr
 ·rename_i hne
  cases hl:resSVs P st fn.results.toList with
  |none=>rw[hl]at hr;cases hr
  |some l=>
   rw[hl]at hr
   cases hr
   obtain⟨vs,h1,h2,h3,h4⟩:=h.resl hl
   have hne1:vs.length≠1:=by
    intro e
    rw[h2]at e
    match hrs:fn.results.toList,e with
    | [x],_=>exact hne x hrs
   refine⟨.tuple vs.toArray,?_,?_⟩
   ·rw[results_list h1,dif_neg (by simpa using hne1)]
   ·refine .tup _ _ (by simp;omega) fun i s hi => ?_
    obtain⟨v,hv,hrep⟩:=h4 i s hi
    have e:vs.toArray.getD i undef=v:=by rw[Array.getD_eq_getD_getElem?,List.getElem?_toArray,hv];rfl
    rw[e]
    exact hrep
end
theorem holds_sub {w:World} {M M':Nat->Prop} {b:Nat} {cs:List SV} (hM : ∀x,M' x->M x) (h:Holds w M b cs):Holds w M' b cs:=by
 obtain⟨us,ty,hb,hall⟩:=h
 refine⟨us,ty,hb,fun i s hi => ?_⟩
 obtain⟨h1,v,hv,hr⟩:=hall i s hi
 exact⟨h1,v,hv,Rep.mono (w:=w) (fun _ _ _=>rfl) (fun b _ hm=>hM b hm) hr⟩
theorem entry {w:World} {F:Nat->Prop} {B:Nat->Nat} {vals:Array Value} {args:List Arg} {N:Nat} {G:List (Nat×Value)} (hgl:GlOk G w F) (hN:N<=N0) (hle:args.length<=N) (hF : ∀b,F b->b<w.heap.size) (hsz:vals.size=args.length)
  (hrep : ∀ (i:Nat) (x:Arg),args[i]?=some x->ArgRep w F (vals.getD i undef) (B i) x)
  (hinj : ∀ (i j:Nat) (x y:Arg),args[i]?=some x->args[j]?=some y->isImp x=true->isImp y=true->B i=B j->i=j) :
  Rel w F (impB args B) ⟨B,fun _=>undef,False,G⟩ N (fun d _=>B (d-N0)) (argSt args) { tmps:=vals++Array.replicate (N-vals.size) undef,defers:=[] } w:=by
 have hobj : ∀d g cs,(argSt args).obj d g=some cs->N0<=d/\g=0 /\ ∃x,args[d-N0]?=some x/\isImp x=true/\Holds w F (B (d-N0)) cs:=by
  intro d g cs h
  simp only[argSt]at h
  split at h
  ·rename_i hd
   refine⟨hd.1,hd.2,?_⟩
   split at h
   ·rename_i cs' hx
    cases h
    exact⟨_,hx,rfl,(hrep _ _ hx).2.2⟩
   ·rename_i cs' _ _ _ hx
    cases h
    exact⟨_,hx,rfl,(hrep _ _ hx).2.2⟩
   ·cases h
  ·cases h
 have hobj' : ∀d g,((argSt args).obj d g).isSome=true->N0<=d/\g=0 /\ ∃x,args[d-N0]?=some x/\isImp x=true/\F (B (d-N0)):=by
  intro d g h
  obtain⟨cs,hcs⟩:=Option.isSome_iff_exists.1 h
  obtain⟨h1,h2,x,hx,hi,_⟩:=hobj d g cs hcs
  refine⟨h1,h2,x,hx,hi,?_⟩
  have:=hrep _ _ hx
  cases x with
  |sv s=>simp[isImp]at hi
  |imp cs=>exact this.2.1
  |impref cs size off n=>exact this.2.1
  |st _ _ _=>simp[isImp]at hi
 have hmut : ∀b,Mut F (fun d _=>B (d-N0)) (argSt args) b->F b:=by
  rintro b (h|⟨d,g,h1,rfl⟩)
  ·exact h
  ·obtain⟨_,_,_,_,_,h⟩:=hobj' d g h1
   exact h
 exact {
  defers:=rfl
  size:=by simp;omega
  tmps:=fun t=>by
   simp only[argSt]
   have hlt : ∀x,args[t]?=some x->(vals++Array.replicate (N-vals.size) undef).getD t undef=vals.getD t undef:=by
    intro x hx
    have:t<vals.size:=by
     rw[hsz]
     rcases Nat.lt_or_ge t args.length with h|h
     ·exact h
     ·rw[List.getElem?_eq_none h]at hx;cases hx
    rw[Array.getD_eq_getD_getElem?,Array.getD_eq_getD_getElem?,Array.getElem?_append_left this]
   split
   ·rename_i s hx
    rw[hlt _ hx]
    exact Rep.mono (w:=w) (fun _ _ _=>rfl) (fun b _ hm=>hmut b hm) (hrep _ _ hx)
   ·rename_i cs hx
    rw[hlt _ hx]
    show _=Value.pointer (some ⟨B (N0+t-N0),0,none⟩)
    rw[(hrep _ _ hx).1,show N0+t-N0=t by omega]
   ·rename_i cs size off n hx
    rw[hlt _ hx]
    obtain⟨⟨cap,us,ty,h1,h2,h3,h4⟩,_⟩:=hrep _ _ hx
    have e:N0+t-N0=t:=by omega
    exact⟨cap,us,ty,by simp only[e];exact h1,h2,by simp only[e];exact h3,h4⟩
   ·trivial
   ·trivial
  ids:=fun t d g h=>by
   simp only[argSt]at h ⊢
   split at h<;>simp only[TV.id,Option.some.injEq,Prod.mk.injEq,reduceCtorEq]at h
   all_goals
    obtain⟨rfl,rfl⟩:=h
    rw[if_pos (by omega)]
    omega
  objs:=fun d g cs h=>by
   obtain⟨_,_,x,_,_,us,ty,hb,hall⟩:=hobj d g cs h
   refine⟨us,ty,hb,fun i s hi => ?_⟩
   obtain⟨h1,v,hv,hr⟩:=hall i s hi
   exact⟨h1,v,hv,Rep.mono (w:=w) (fun _ _ _=>rfl) (fun b _ hm=>hmut b hm) hr⟩
  own:=fun d g h=>by
   obtain⟨h1,h2,x,hx,hi,_⟩:=hobj' d g h
   have hlt:d-N0<args.length:=by
    rcases Nat.lt_or_ge (d-N0) args.length with hh|hh
    ·exact hh
    ·rw[List.getElem?_eq_none hh]at hx;cases hx
   have:H0=N0+N0:=by decide
   exact⟨fun hlt=>by omega,fun _ _=>⟨_,x,hx,hi,rfl⟩⟩
  room:=hN
  inj:=fun d1 g1 d2 g2 h1 h2 e=>by
   obtain⟨a1,b1,x,hx,hi,_⟩:=hobj' d1 g1 h1
   obtain⟨a2,b2,y,hy,hj,_⟩:=hobj' d2 g2 h2
   have:=hinj _ _ x y hx hy hi hj e
   exact⟨by omega,by rw[b1,b2]⟩
  gens:=fun d g h=>by
   obtain⟨h1,h2,_⟩:=hobj' d g h
   simp only[argSt,h2]
   rw[if_pos h1]
   omega
  ext:=Ext.refl _ _
  old:=hF
  imps:=by
   rintro b ⟨i,x,hx,hi,rfl⟩
   have:=hrep _ _ hx
   cases x with
   |sv s=>simp[isImp]at hi
   |imp cs=>exact⟨.inl this.2.1,fun x=>x.elim⟩
   |impref cs size off n=>exact⟨.inl this.2.1,fun x=>x.elim⟩
   |st _ _ _=>simp[isImp]at hi
  pin:=fun _ _ _ _=>rfl
  ups:=fun _=>trivial
  uids:=fun _ d g h=>by simp[argSt,TV.id]at h
  glob:=fun g v hg=>Rep.mono (w:=w) (fun _ _ _=>rfl) (fun b _ hm=>hmut b hm) (hgl g v hg)
  hobs:=fun d g ts h=>by simp[argSt]at h }
section
variable {P:Program} {w0 w:World} {F I:Nat->Prop} {Z:Zy} {N:Nat} {β:Nat->Nat->Nat} {st:St} {a:Act}
theorem Rel.enter (h:Rel w0 F I Z N β st a w) {vs:List TV} {vals:Array Value} {M:Nat} (hM:M<=N0) (hle:vs.length<=M) (hsz:vals.size=vs.length)
  (hv : ∀ (i:Nat) (v:TV),vs[i]?=some v->RepT β w (Mut F β st) (vals.getD i undef) v /\ ∀d g,v.id=some (d,g)->g<st.gen d) :
  Rel w0 F I ⟨Z.z,fun t=>if t%2=0 then a.tmps.getD (t/2) undef else Z.y (t/2),Z.old,Z.gl⟩ M β (st.enter vs) { tmps:=vals++Array.replicate (M-vals.size) undef,defers:=[] } w where
 defers:=rfl
 size:=by simp;omega
 tmps:=fun t=>by
  show RepT β w (Mut F β st) _ (optT vs[t]?)
  cases e:vs[t]? with
  |none=>trivial
  |some v=>
   have hlt:t<vals.size:=by
    rw[hsz]
    rcases Nat.lt_or_ge t vs.length with h|h
    ·exact h
    ·rw[List.getElem?_eq_none h]at e;cases e
   have:=(hv t v e).1
   rw[Array.getD_eq_getD_getElem?]at this ⊢
   rw[Array.getElem?_append_left hlt]
   exact this
 ids:=fun t d g hx=>by
  have hx:(optT vs[t]?).id=some (d,g):=hx
  cases e:vs[t]? with
  |none=>rw[e]at hx;simp[TV.id,optT]at hx
  |some v=>rw[e]at hx;exact(hv t v e).2 d g hx
 objs:=h.objs
 own:=h.own
 room:=hM
 inj:=h.inj
 gens:=h.gens
 ext:=h.ext
 old:=h.old
 imps:=h.imps
 pin:=h.pin
 ups:=fun t=>by
  show RepT β w (Mut F β st) (if t%2=0 then a.tmps.getD (t/2) undef else Z.y (t/2)) (if t%2=0 then st.tmp (t/2) else st.up (t/2))
  split
  ·exact h.tmps _
  ·exact h.ups _
 uids:=fun t d g hx=>by
  have hx:(if t%2=0 then st.tmp (t/2) else st.up (t/2)).id=some (d,g):=hx
  split at hx
  ·exact h.ids _ d g hx
  ·exact h.uids _ d g hx
 glob:=h.glob
 hobs:=h.hobs
theorem Rel.leave (h:Rel w0 F I Z N β st a w) {M:Nat} {β':Nat->Nat->Nat} {s:St} {a':Act} {w':World}
  (hr:Rel w0 F I ⟨Z.z,fun t=>if t%2=0 then a.tmps.getD (t/2) undef else Z.y (t/2),Z.old,Z.gl⟩ M β' s a' w'):Rel w0 F I Z N β' s.leave a w' where
 defers:=h.defers
 size:=h.size
 tmps:=fun t=>by
  have:=hr.ups (2*t)
  simp only[Nat.mul_mod_right,if_true,Nat.mul_div_cancel_left t (Nat.succ_pos 1)]at this
  exact this
 ids:=fun t d g hx=>hr.uids (2*t) d g hx
 objs:=hr.objs
 own:=hr.own
 room:=h.room
 inj:=hr.inj
 gens:=hr.gens
 ext:=hr.ext
 old:=hr.old
 imps:=hr.imps
 pin:=hr.pin
 ups:=fun t=>by
  have:=hr.ups (2*t+1)
  rw[show ((⟨Z.z,fun t=>if t%2=0 then a.tmps.getD (t/2) undef else Z.y (t/2),Z.old,Z.gl⟩:Zy).y (2*t+1))=Z.y t by
   show (if (2*t+1)%2=0 then _ else _)=_
   rw[if_neg (by omega),show (2*t+1)/2=t by omega]]at this
  exact this
 uids:=fun t d g hx=>hr.uids (2*t+1) d g hx
 glob:=hr.glob
 hobs:=hr.hobs
theorem leave_enter {vs:List TV} {s:St} (h1:s.obj=st.obj) (h2:s.gen=st.gen) (h3:s.hob=st.hob) (h4:s.up=(st.enter vs).up):s.leave=st:=by
 cases st
 cases s
 simp only[St.leave,St.enter]at *
 subst h1 h2 h3 h4
 congr 1
 ·funext t
  show (if (2*t)%2=0 then _ else _)=_
  rw[if_pos (by omega),show 2*t/2=t by omega]
 ·funext t
  show (if (2*t+1)%2=0 then _ else _)=_
  rw[if_neg (by omega),show (2*t+1)/2=t by omega]
theorem Rel.resTV_id (h:Rel w0 F I Z N β st a w) {r:ResultVar} {t:TV} (hr:resTV P st r=some t) : ∀d g,t.id=some (d,g)->g<st.gen d:=by
 intro d g e
 cases r with
 |tmp u=>
  simp only[resTV,Option.some.injEq]at hr
  subst hr
  exact h.ids u d g e
 |cell x t' =>
  unfold resTV at hr
  simp only at hr
  split at hr
  ·split at hr
   ·obtain⟨s,_,rfl⟩:=map_some hr
    simp[TV.id]at e
   ·cases hr
  ·cases hr
theorem Rel.resi (h:Rel w0 F I Z N β st a w) : ∀ {rs:List ResultVar} {l:List SV},resIs P st rs=some l ->
  ∃vs,(rs.mapM (resF a.tmps)).run P w = .ok vs w/\vs.length=rs.length/\l.length=rs.length /\ ∀ (i:Nat) s,l[i]?=some s -> ∃v,vs[i]?=some v/\Rep w (Mut F β st) v s:=by
 intro rs
 induction rs with
 |nil=>intro l hl;cases hl;exact⟨[],rfl,rfl,rfl,fun i s hi=>by simp at hi⟩
 |cons r rs ih=>
  intro l hl
  unfold resIs at hl
  split at hl
  ·rename_i t l' ht hl'
   split at hl
   ·rename_i s hs
    cases hl
    obtain⟨vs,h1,h2,h3,h4⟩:=ih hl'
    obtain⟨v,hv,hrep⟩:=h.res ht
    refine⟨v::vs,?_,by simp[h2],by simp[h3],fun i y hi => ?_⟩
    ·simp[List.mapM_cons,hv,h1]
    ·cases i with
     |zero=>simp only[List.getElem?_cons_zero,Option.some.injEq]at hi ⊢;subst hi;exact⟨v,rfl,toSV_rep hrep hs⟩
     |succ i=>simp only[List.getElem?_cons_succ]at hi ⊢;exact h4 i y hi
   ·cases hl
  ·cases hl
theorem noCap_rep {β:Nat->Nat->Nat} {w:World} {M:Nat->Prop} {v:Value} {t:TV} (h:RepT β w M v t):RepT β w M v t.noCap:=by
 cases t with
 |rfc d g size off n c=>
  obtain⟨cs,ty,h1,h2,h3,h4⟩:=h
  exact⟨c,cs,ty,h1,h2,h3,h4⟩
 |_=>exact h
theorem Rel.reti (h:Rel w0 F I Z N β st a w) {fn:Func} {t:TV} (hr:retI P st fn.results.toList=some t) :
  ∃v,(results fn a.tmps).run P w = .ok v w/\RepT β w (Mut F β st) v t /\ ∀d g,t.id=some (d,g)->g<st.gen d:=by
 unfold retI at hr
 split at hr
 ·rename_i rv hrs
  obtain⟨t,hr1,rfl⟩:=map_some hr
  obtain⟨v,hv,hrep⟩:=h.res hr1
  refine⟨v,results_list (vs:=[v]) (by rw[hrs];simp[hv]),noCap_rep hrep,fun d g e=>h.resTV_id hr1 d g ?_⟩
  cases t<;>exact e
 ·rename_i hne
  obtain⟨l,hl,rfl⟩:=map_some hr
  obtain⟨vs,h1,h2,h3,h4⟩:=h.resi hl
  have hne1:vs.length≠1:=by
   intro e
   rw[h2]at e
   match hrs:fn.results.toList,e with
   | [x],_=>exact hne x hrs
  refine⟨.tuple vs.toArray,?_,?_,fun d g e=>by simp[TV.id]at e⟩
  ·rw[results_list h1,dif_neg (by simpa using hne1)]
  ·refine .tup _ _ (by simp;omega) fun i s hi => ?_
   obtain⟨v,hv,hrep⟩:=h4 i s hi
   have e:vs.toArray.getD i undef=v:=by rw[Array.getD_eq_getD_getElem?,List.getElem?_toArray,hv];rfl
   rw[e]
   exact hrep
end
section
variable {P:Program} {call:Callf} {mu:FuncId->Bool}
theorem putO_up {st:St} {dst:Option Nat} {v:TV} {u:Nat->TV}:St.putO { st with up:=u } dst v={ st.putO dst v with up:=u }:=by cases dst<;>rfl
theorem eval_up {st:St} {u:Nat->TV} (x:Operand):St.eval { st with up:=u } x=st.eval x:=by cases x<;>rfl
theorem step_look {soft:Bool} {dst:Option Nat} {op:Op} (h:lookOp op=true) (st:St):step P call mu soft dst op st=(val P st op).map (st.putO dst):=by
 unfold lookOp at h
 split at h<;>first|(cases h;done)|(cases soft<;>rfl)|(show (match val P st _ with|some v=>some (st.putO dst v)|none=>if soft then none else none)=_;cases val P st _<;>cases soft<;>rfl)
theorem stepO_look {ops:Array Oper} {o:Oper} {st s:St} (hl:lookOp o.op=true) (h:stepO P call mu false ops o st=some s) :
  (s.obj=st.obj/\s.gen=st.gen/\s.hob=st.hob/\s.up=st.up) /\ ∀u,stepO P call mu false ops o { st with up:=u }=some { s with up:=u }:=by
 have put : ∀v:TV,((st.putO o.dst v).obj=st.obj/\(st.putO o.dst v).gen=st.gen/\(st.putO o.dst v).hob=st.hob/\(st.putO o.dst v).up=st.up):=fun v=>by cases o.dst<;>exact⟨rfl,rfl,rfl,rfl⟩
 have key : ∀s,stepS P call mu false ops o.dst o.op st=some s->(s.obj=st.obj/\s.gen=st.gen/\s.hob=st.hob/\s.up=st.up) /\ ∀u,stepS P call mu false ops o.dst o.op { st with up:=u }=some { s with up:=u }:=by
  intro s h
  have e : ∀st,stepS P call mu false ops o.dst o.op st=(val P st o.op).map (st.putO o.dst):=fun st=>by
   unfold stepS
   rw[Bool.and_false,Bool.and_false,if_neg (by simp),Bool.false_and,Bool.false_and,if_neg (by simp)]
   exact step_look hl st
  rw[e]at h
  obtain⟨v,hv,rfl⟩:=map_some h
  refine⟨put v,fun u => ?_⟩
  rw[e,val_congr (st:=st) (st2:={ st with up:=u }) (fun x _=>eval_up x) (fun _ _ _=>rfl) rfl,hv]
  exact congrArg some putO_up
 unfold stepO at h
 split at h
 ·rename_i hg
  have e : ∀st,stepO P call mu false ops o st=stepS P call mu false ops o.dst o.op st:=fun st=>by
   unfold stepO
   rw[hg]
  simp only[e]
  exact key _ h
 ·rename_i j want hg
  split at h
  ·rename_i t ht
   have e : ∀st:St,stepO P call mu false ops o st=(match st.tmp t with
     | .sv (.bool b)=>if b=want then stepS P call mu false ops o.dst o.op st else some (st.putO o.dst .skip)
     | .skip=>some (st.putO o.dst .skip)
     |_=>none):=fun st=>by
    unfold stepO
    rw[hg]
    simp only[ht]
    rfl
   split at h
   ·rename_i b hb
    have e2 : ∀u,stepO P call mu false ops o { st with up:=u }=if b=want then stepS P call mu false ops o.dst o.op { st with up:=u } else some (St.putO { st with up:=u } o.dst .skip):=fun u=>by
     rw[e]
     simp only[hb]
    split at h
    ·rename_i hw
     obtain⟨k1,k2⟩:=key _ h
     exact⟨k1,fun u=>by rw[e2,if_pos hw];exact k2 u⟩
    ·rename_i hw
     cases h
     exact⟨put _,fun u=>by rw[e2,if_neg hw];exact congrArg some putO_up⟩
   ·rename_i hb
    cases h
    refine⟨put _,fun u => ?_⟩
    rw[e]
    simp only[hb]
    exact congrArg some putO_up
   ·cases h
  ·cases h
theorem ops_look {ops:Array Oper} : ∀ {l:List Oper} {st s:St},(∀o∈l,lookOp o.op=true)->execOps P call mu false ops l st=some s ->
  (s.obj=st.obj/\s.gen=st.gen/\s.hob=st.hob/\s.up=st.up) /\ ∀u,execOps P call mu false ops l { st with up:=u }=some { s with up:=u }
 | [],st,s,_,h=>by unfold execOps at h;cases h;exact⟨⟨rfl,rfl,rfl,rfl⟩,fun _=>rfl⟩
 |o::r,st,s,hl,h=>by
  unfold execOps at h
  cases e:stepO P call mu false ops o st with
  |none=>rw[e]at h;cases h
  |some s1=>
   rw[e]at h
   obtain⟨⟨a1,a2,a3,a4⟩,b⟩:=stepO_look (hl o List.mem_cons_self) e
   obtain⟨⟨c1,c2,c3,c4⟩,d⟩:=ops_look (fun x hx=>hl x (List.mem_cons_of_mem _ hx)) h
   refine⟨⟨c1.trans a1,c2.trans a2,c3.trans a3,c4.trans a4⟩,fun u => ?_⟩
   unfold execOps
   rw[b u]
   exact d u
theorem exec_look : ∀ (n:Nat) {c:Code} {st s:St} {e:Ex},lookCode c=true->exec P call mu n c st=some (e,s) ->
  (s.obj=st.obj/\s.gen=st.gen/\s.hob=st.hob/\s.up=st.up) /\ ∀u,exec P call mu n c { st with up:=u }=some (e,{ s with up:=u }):=by
 intro n
 induction n with
 |zero=>intro c st s e _ h;simp[exec]at h
 |succ n ih=>
  intro c st s e hl h
  cases c with
  |skip=>unfold exec at h;cases h;exact⟨⟨rfl,rfl,rfl,rfl⟩,fun _=>rfl⟩
  |ret=>unfold exec at h;cases h;exact⟨⟨rfl,rfl,rfl,rfl⟩,fun _=>rfl⟩
  |region id ops draw=>
   unfold lookCode at hl
   rw[Bool.and_eq_true]at hl
   obtain⟨h1,h2⟩:=hl
   cases draw with
   |true=>cases h1
   |false=>
    have h:(match execOps P call mu false ops ops.toList st with|some st'=>some (Ex.normal,st')|none=>none)=some (e,s):=h
    cases he:execOps P call mu false ops ops.toList st with
    |none=>rw[he]at h;cases h
    |some s1=>
     rw[he]at h
     cases h
     obtain⟨a,b⟩:=ops_look (fun o ho=>by rw[Array.all_eq_true']at h2;exact h2 o (Array.mem_toList_iff.1 ho)) he
     refine⟨a,fun u => ?_⟩
     show (match execOps P call mu false ops ops.toList { st with up:=u } with|some st'=>some (Ex.normal,st')|none=>none)=_
     rw[b u]
  |seq x y=>
   unfold lookCode at hl
   rw[Bool.and_eq_true]at hl
   unfold exec at h ⊢
   dsimp only at h ⊢
   cases he:exec P call mu n x st with
   |none=>rw[he]at h;cases h
   |some r=>
    obtain⟨e1,s1⟩:=r
    rw[he]at h
    obtain⟨⟨a1,a2,a3,a4⟩,b⟩:=ih hl.1 he
    cases e1 with
    |normal=>
     obtain⟨⟨c1,c2,c3,c4⟩,d⟩:=ih hl.2 h
     refine⟨⟨c1.trans a1,c2.trans a2,c3.trans a3,c4.trans a4⟩,fun u => ?_⟩
     rw[b u]
     exact d u
    |exit i=>cases h;exact⟨⟨a1,a2,a3,a4⟩,fun u=>by rw[b u]⟩
    |ret=>cases h;exact⟨⟨a1,a2,a3,a4⟩,fun u=>by rw[b u]⟩
    |goto l=>cases h;exact⟨⟨a1,a2,a3,a4⟩,fun u=>by rw[b u]⟩
  |cond x t f=>
   unfold lookCode at hl
   rw[Bool.and_eq_true]at hl
   unfold exec at h ⊢
   dsimp only at h ⊢
   simp only[eval_up]
   split at h
   ·rename_i b hb
    cases b with
    |true=>
     obtain⟨k1,k2⟩:=ih hl.1 h
     exact⟨k1,k2⟩
    |false=>
     obtain⟨k1,k2⟩:=ih hl.2 h
     exact⟨k1,k2⟩
   ·cases h
  |_=>cases hl
end
theorem enters_of {P : Program} {g : FuncId} {fn : Func} (hf : P.funcs[g]? = some fn) (hn : (fn.name != "runtime.NumGoroutine") = true) {c : Code} (hb : fn.body = some c) : Enters P g := by
 intro args w
 have : ¬ fn.name = "runtime.NumGoroutine" := by simpa [bne] using hn
 simp[callFunc,hf,this,hb]
def Good (P:Program) (good:FuncId->Bool):Prop := ∀f fn,good f=true->P.funcs[f]?=some fn->okFn P fn=true
theorem calls_inl {P:Program} {X:Callf} {mu good:FuncId->Bool} {n:Nat} {g:FuncId} {k:Bool} {st:St} {vs:List TV} {r:Ret} {exps:List (Option (List SV))} (h:callN P X mu good (n+1) g [.st k st vs]=some (r,exps)) :
  X g [.st k st vs]=some (r,exps)\/(X g [.st k st vs]=none /\ ∃fn c s t,P.funcs[g]?=some fn/\good g=true/\fn.body=some c/\vs.length<=fn.ntmps/\(k=true->lookCode c=true)/\exec P (callN P X mu good n) mu n c (st.enter vs)=some (.ret,s) /\
   ((k=true/\exps=[]/\retI P s fn.results.toList=some t /\ ∃x,t = .sv x/\r = .sv x)\/(k=false/\exps=[] /\ ∃s1,frzR P s fn.results.toList=some s1/\retI P s1 fn.results.toList=some t/\r = .st s1.leave t))):=by
 have h:(match X g [.st k st vs]with
   |some r=>some r
   |none=>match P.funcs[g]? with
    |some fn=>if good g then match fn.body with
      |some c=>if vs.length<=fn.ntmps/\(k=true->lookCode c=true) then inlOf P fn.results.toList k (exec P (callN P X mu good n) mu n c (st.enter vs)) else none
      |none=>none
     else none
    |none=>none)=some (r,exps):=h
 split at h
 ·rename_i x hx
  left
  rw[hx]
  exact h
 rename_i hx
 refine .inr ⟨hx,?_⟩
 split at h
 ·rename_i fn hf
  split at h
  ·rename_i hg
   split at h
   ·rename_i c hb
    split at h
    ·rename_i hl
     obtain⟨s,he⟩:=inlOf_some h
     rw[he]at h
     unfold inlOf at h
     simp only at h
     cases k with
     |true=>
      simp only[if_true]at h
      split at h
      ·rename_i x ht
       cases h
       exact⟨fn,c,s,_,hf,hg,hb,hl.1,hl.2,he,.inl ⟨rfl,rfl,ht,x,rfl,rfl⟩⟩
      ·cases h
     |false=>
      simp only[Bool.false_eq_true,if_false]at h
      split at h
      ·rename_i s1 h1
       split at h
       ·rename_i t ht
        cases h
        exact⟨fn,c,s,t,hf,hg,hb,hl.1,hl.2,he,.inr ⟨rfl,rfl,s1,h1,ht,rfl⟩⟩
       ·cases h
      ·cases h
    ·cases h
   ·cases h
  ·cases h
 ·cases h
theorem callN_in {P:Program} {G:List (Nat×Value)} {X:Callf} (hXI:InOk P G X) {good:FuncId->Bool} (hgood:Good P good) {mu:FuncId->Bool} {n:Nat} (ih:CallAll P G (callN P X mu good n)):InOk P G (callN P X mu good (n+1)):=by
 intro g k st vs r exps h w0 F I Z N β a w vals hZ hrel hsz hvals
 subst hZ
 rcases calls_inl h with h|⟨_,h⟩
 ·exact hXI g k st vs r exps h w0 F I Z N β a w vals rfl hrel hsz hvals
 obtain⟨fn,c,s,t,hf,hg,hb,hle,hlk,he,hcase⟩:=h
 have hok:=hgood _ _ hg hf
 simp only[okFn,Bool.and_eq_true,hb,decide_eq_true_eq]at hok
 obtain⟨⟨⟨hm,hn⟩,hN⟩,hc⟩:=hok
 refine .inl ⟨enters_of hf hn hb,?_⟩
 have hent:=hrel.enter hN hle hsz hvals
 refine calls_of_wp hf hb ?_
 rw[hsz]at hent ⊢
 refine exec_wp (Z:=⟨Z.z,fun t=>if t%2=0 then a.tmps.getD (t/2) undef else Z.y (t/2),Z.old,Z.gl⟩) ih hm n hc ⟨_,hent⟩ he fun a' w' hr => ?_
 obtain⟨β',hr⟩:=hr
 rcases hcase with⟨hk,_,hret,x,rfl,rfl⟩|⟨hk,_,s1,h1,hret,rfl⟩
 ·obtain⟨v,hv,hrep,hid⟩:=hr.reti hret
  refine⟨hr.defers,v,hv,v,rfl,?_⟩
  have hlv:=hrel.leave hr
  obtain⟨⟨e1,e2,e3,e4⟩,_⟩:=exec_look n (hlk hk) he
  have hback:s.leave=st:=leave_enter e1 e2 e3 e4
  rw[hback]at hlv
  refine⟨hk,β',hlv,?_⟩
  have:Mut F β' s=Mut F β' st:=by rw[<- hback];rfl
  rw[<- this]
  exact hrep
 ·have hr:Rel w0 F I ⟨Z.z,fun t=>if t%2=0 then a.tmps.getD (t/2) undef else Z.y (t/2),Z.old,Z.gl⟩ fn.ntmps β' s1 a' w':=by
   unfold frzR at h1
   split at h1
   ·cases h1;exact hr
   ·exact hr.frzAll h1
  obtain⟨v,hv,hrep,hid⟩:=hr.reti hret
  exact⟨hr.defers,v,hv,v,rfl,hk,β',hrel.leave hr,hrep,hid⟩
theorem callN_look {P:Program} {X:Callf} (hXL : ∀f st vs,X f [.st true st vs]=none) {mu good:FuncId->Bool} {n:Nat}:LookOk (callN P X mu good (n+1)):=by
 intro g st st2 vs r e h ho hg hh
 rcases calls_inl h with h|⟨_,h⟩
 ·rw[hXL]at h;cases h
 obtain⟨fn,c,s,t,hf,hgd,hb,hle,hlk,he,hcase⟩:=h
 rcases hcase with⟨_,_,hret,x,rfl,e1⟩|⟨hk,_⟩
 ·cases e1
  obtain⟨_,hu⟩:=exec_look n (hlk rfl) he
  have hu:=hu (st2.enter vs).up
  have hs:({ st.enter vs with up:=(st2.enter vs).up }:St)=st2.enter vs:=by
   unfold St.enter
   rw[ho,hg,hh]
  rw[hs]at hu
  refine⟨[],?_⟩
  unfold callN
  simp only[stq,hXL,hf,hgd,hb,if_true]
  rw[if_pos ⟨hle,fun _=>hlk rfl⟩,hu]
  unfold inlOf
  simp only
  have hr2:retI P { s with up:=(st2.enter vs).up } fn.results.toList=some (.sv r):=by
   have e0 : ∀rv,resTV P { s with up:=(st2.enter vs).up } rv=resTV P s rv:=fun rv=>by cases rv<;>rfl
   have e1 : ∀rs,resIs P { s with up:=(st2.enter vs).up } rs=resIs P s rs:=fun rs=>by
    induction rs with
    |nil=>rfl
    |cons a b ih=>unfold resIs;rw[e0,ih]
   rw[<- hret]
   unfold retI
   split
   ·rw[e0]
   ·rw[e1]
  rw[hr2]
  rfl
 ·cases hk
structure TabOk (P:Program) (G:List (Nat×Value)) (X:Callf):Prop where
 ok:CallOk P G X
 inn:InOk P G X
 look : ∀f st vs,X f [.st true st vs]=none
 eqv:EqCall X
theorem tabOk_of {P:Program} {G:List (Nat×Value)} {X:Callf} (h:CallOk P G X) (hn : ∀f k st vs,X f [.st k st vs]=none):TabOk P G X:=
 ⟨h,fun g k st vs r exps e=>(by rw[hn]at e;cases e),fun f st vs=>hn f true st vs,fun g b s vs r e h=>(by rw[hn]at h;cases h)⟩
theorem callN_all {P:Program} {G:List (Nat×Value)} {X:Callf} (hX:TabOk P G X) {good:FuncId->Bool} (hgood:Good P good) (mu:FuncId->Bool)   : ∀n,CallAll P G (callN P X mu good n):=by
 intro n
 induction n with
 |zero=>exact⟨fun g args r exps h=>by simp[callN]at h,fun g k st vs r exps h=>by simp[callN]at h,fun g st st2 vs r e h=>by simp[callN]at h,fun g b s vs r e h=>by simp[callN]at h⟩
 |succ n ih=>
  refine⟨?_,callN_in hX.inn hgood ih,callN_look hX.look,callN_eq hX.eqv _⟩
  intro g args r exps h
  unfold callN at h
  split at h
  ·rename_i k s vs hq
   have:args=[.st k s vs]:=by
    unfold stq at hq
    split at hq
    ·cases hq;rfl
    ·cases hq
   subst this
   intro w F B vals _ _ _ hrep _
   exact(hrep 0 _ rfl).elim
  split at h
  ·rename_i x hx
   cases h
   exact hX.ok g args r exps hx
  ·split at h
   ·rename_i fn hf
    split at h
    ·rename_i hg
     have hok:=hgood _ _ hg hf
     split at h
     ·rename_i c hb
      split at h
      ·rename_i hle
       simp only[okFn,Bool.and_eq_true,hb,decide_eq_true_eq]at hok
       obtain⟨⟨⟨hm,hn⟩,hN⟩,hc⟩:=hok
       refine fun w F B vals hgl hF hsz hrep hinj => .inl ⟨enters_of hf hn hb,?_⟩
       have hent:=entry hgl hN hle hF hsz hrep hinj
       refine calls_of_wp hf hb ?_
       have fin : ∀ {st':St},(retOf P st' fn.results.toList).map (fun r=>(r,expOf st' args))=some (r,exps) -> ∀a' w',To w F (impB args B) ⟨B,fun _=>undef,False,G⟩ fn.ntmps st' a' w' ->
         a'.defers=[] /\ ∃v,(results fn a'.tmps).run P w' = .ok v w'/\((fun e w' => ∃v,e = .returned v/\RetRep w w' F v r/\Ext (impB args B) w w' /\ ∀ (i:Nat) (cs:List SV),exps[i]?=some (some cs)->Holds w' F (B i) cs):Ending->World->Prop) (.returned v) w':=by
        intro st' he a' w' ⟨β,hr⟩
        cases hret:retOf P st' fn.results.toList with
        |none=>rw[hret]at he;cases he
        |some r' =>
         rw[hret]at he
         cases he
         obtain⟨v,hv,hrr⟩:=hr.ret hret
         refine⟨hr.defers,v,hv,v,rfl,hrr,hr.ext,fun i cs hi => ?_⟩
         have ho:st'.obj (N0+i) 0=some cs:=by
          unfold expOf at hi
          rw[List.getElem?_map]at hi
          rcases Nat.lt_or_ge i args.length with hlt|hge
          ·rw[List.getElem?_range hlt]at hi
           simp only[Option.map_some,Option.some.injEq]at hi
           split at hi<;>first|exact hi|cases hi
          ·rw[List.getElem?_eq_none (by simpa using hge)]at hi
           cases hi
         have:=hr.holds ho
         have hiN:i<N0:=by
          rcases Nat.lt_or_ge i args.length with hlt|hge
          ·omega
          ·unfold expOf at hi
           rw[List.getElem?_eq_none (by simpa using hge)]at hi
           cases hi
         have hHN:H0=N0+N0:=by decide
         rw[hr.pin _ _ (by omega) (by omega),show N0+i-N0=i by omega]at this
         exact holds_sub (fun _ hf => .inl hf) this
       split at h
       ·rename_i st' he
        refine exec_wp (Z:=⟨B,fun _=>undef,False,G⟩) ih hm n hc ⟨_,hent⟩ he fun a' w' hr => ?_
        exact fin h a' w' hr
       ·rename_i st' he
        refine exec_wp (Z:=⟨B,fun _=>undef,False,G⟩) ih hm n hc ⟨_,hent⟩ he fun a' w' hr => ?_
        exact fin h a' w' hr
       ·cases h
      ·cases h
     ·cases h
    ·cases h
   ·cases h
theorem callN_ok {P:Program} {G:List (Nat×Value)} {X:Callf} (hX:TabOk P G X) {good:FuncId->Bool} (hgood:Good P good) (mu:FuncId->Bool) (n:Nat):CallOk P G (callN P X mu good n):=(callN_all hX hgood mu n).1
theorem rowN_ok {P:Program} {G:List (Nat×Value)} {X:Callf} (hX:TabOk P G X) {good:FuncId->Bool} (hgood:Good P good) {mu:FuncId->Bool} {n:Nat} {g:FuncId} {args:List Arg} {r:Ret} {exps:List (Option (List SV))} (h:rowN P X mu good n g args=some (r,exps)) :
 ∀ (w:World) (F:Nat->Prop) (B:Nat->Nat) (vals:Array Value),GlOk G w F->(∀b,F b->b<w.heap.size)->vals.size=args.length ->
  (∀ (i:Nat) (x:Arg),args[i]?=some x->ArgRep w F (vals.getD i undef) (B i) x) ->
  (∀ (i j:Nat) (x y:Arg),args[i]?=some x->args[j]?=some y->isImp x=true->isImp y=true->B i=B j->i=j) ->
  Invk P g vals w fun e w' => ∃v,e = .returned v/\RetRep w w' F v r/\Ext (impB args B) w w' /\ ∀ (i:Nat) (cs:List SV),exps[i]?=some (some cs)->Holds w' F (B i) cs:=by
 have ih:=callN_all hX hgood mu n
 unfold rowN at h
 split at h
 ·rename_i fn hf
  split at h
  ·rename_i hg
   have hok:=hgood _ _ hg hf
   split at h
   ·rename_i c hb
    split at h
    ·rename_i hle
     simp only[okFn,Bool.and_eq_true,hb,decide_eq_true_eq]at hok
     obtain⟨⟨⟨hm,hn⟩,hN⟩,hc⟩:=hok
     refine fun w F B vals hgl hF hsz hrep hinj => .inl ⟨enters_of hf hn hb,?_⟩
     have hent:=entry hgl hN hle hF hsz hrep hinj
     refine calls_of_wp hf hb ?_
     have fin : ∀ {st':St},(retRow P st' fn.results.toList).map (fun r=>(r,expOf st' args))=some (r,exps) -> ∀a' w',To w F (impB args B) ⟨B,fun _=>undef,False,G⟩ fn.ntmps st' a' w' ->
       a'.defers=[] /\ ∃v,(results fn a'.tmps).run P w' = .ok v w'/\((fun e w' => ∃v,e = .returned v/\RetRep w w' F v r/\Ext (impB args B) w w' /\ ∀ (i:Nat) (cs:List SV),exps[i]?=some (some cs)->Holds w' F (B i) cs):Ending->World->Prop) (.returned v) w':=by
      intro st' he a' w' ⟨β,hr⟩
      cases hret:retRow P st' fn.results.toList with
      |none=>rw[hret]at he;cases he
      |some r' =>
       rw[hret]at he
       cases he
       obtain⟨v,hv,hrr⟩:=hr.rowRet hret
       refine⟨hr.defers,v,hv,v,rfl,hrr,hr.ext,fun i cs hi => ?_⟩
       have ho:st'.obj (N0+i) 0=some cs:=by
        unfold expOf at hi
        rw[List.getElem?_map]at hi
        rcases Nat.lt_or_ge i args.length with hlt|hge
        ·rw[List.getElem?_range hlt]at hi
         simp only[Option.map_some,Option.some.injEq]at hi
         split at hi<;>first|exact hi|cases hi
        ·rw[List.getElem?_eq_none (by simpa using hge)]at hi
         cases hi
       have:=hr.holds ho
       have hiN:i<N0:=by
        rcases Nat.lt_or_ge i args.length with hlt|hge
        ·omega
        ·unfold expOf at hi
         rw[List.getElem?_eq_none (by simpa using hge)]at hi
         cases hi
       have hHN:H0=N0+N0:=by decide
       rw[hr.pin _ _ (by omega) (by omega),show N0+i-N0=i by omega]at this
       exact holds_sub (fun _ hf => .inl hf) this
     split at h
     ·rename_i st' he
      refine exec_wp (Z:=⟨B,fun _=>undef,False,G⟩) ih hm n hc ⟨_,hent⟩ he fun a' w' hr => ?_
      exact fin h a' w' hr
     ·rename_i st' he
      refine exec_wp (Z:=⟨B,fun _=>undef,False,G⟩) ih hm n hc ⟨_,hent⟩ he fun a' w' hr => ?_
      exact fin h a' w' hr
     ·cases h
    ·cases h
   ·cases h
  ·cases h
 ·cases h
theorem callN_calls {P:Program} {G:List (Nat×Value)} {X:Callf} (hX:TabOk P G X) {good:FuncId->Bool} (hgood:Good P good) {mu:FuncId->Bool} {n:Nat} {f:FuncId} {args:List SV} {s:SV} {exps:List (Option (List SV))} (h:callN P X mu good n f (args.map Arg.sv)=some (.sv s,exps))
  (hE:Enters P f) {w:World} (hgl:GlOk G w (fun _=>False)) {vals:Array Value} (hsz:vals.size=args.length) (hrep : ∀ (i:Nat) (x:SV),args[i]?=some x->Rep w (fun _=>False) (vals.getD i undef) x) :
  Calls P f vals w fun e w' => ∃v,e = .returned v/\Rep w' (fun _=>False) v s/\Below w.heap.size w w':=by
 have hns : ∀ (i:Nat) (x:Arg),(args.map Arg.sv)[i]?=some x -> ∃y,args[i]?=some y/\x = .sv y:=by
  intro i x hx
  rw[List.getElem?_map]at hx
  cases hy:args[i]? with
  |none=>rw[hy]at hx;cases hx
  |some y=>rw[hy]at hx;cases hx;exact⟨y,rfl,rfl⟩
 have key:Invk P f vals w fun e w' => ∃v,e = .returned v/\Rep w' (fun _=>False) v s/\Below w.heap.size w w':=by
  refine((callN_ok hX hgood mu n) f _ _ _ h w (fun _=>False) (fun _=>0) vals hgl (fun _ hb=>hb.elim) (by simpa using hsz) (fun i x hx => ?_) (fun i j x y hx hy hi => ?_)).mono ?_
  ·obtain⟨y,hy,rfl⟩:=hns i x hx
   exact hrep i y hy
  ·obtain⟨y,hy,rfl⟩:=hns i x hx
   simp[isImp]at hi
  ·rintro e w' ⟨v,rfl,hr,he,_⟩
   refine⟨v,rfl,hr,Ext.below (he.mono ?_ ?_)⟩
   ·rintro b ⟨i,x,hx,hi,_⟩
    obtain⟨y,hy,rfl⟩:=hns i x hx
    simp[isImp]at hi
   ·intro b hb
    exact hb.elim
 rcases key with⟨_,h⟩|⟨v,h,_⟩
 ·exact h
 ·have:=hE vals w
  rw[this]at h
  cases h
end Go.Ev
namespace Go.Ev
open Go.RowKit
section
variable {H:Type} {enc:TypeId×Value->H} {P:Program} {w:World} {sp:Nat->Bool} {held:Bool}
end
end Go.Ev
namespace Go.Proofs.YtcfjiolldehegaaGreatDoor
open Go.RowKit Go.WideShapes Go.ChangeShapes
section
variable {H:Type} {enc:TypeId×Value->H} {P:Program}
theorem post_of_below {f:Func} {s:ChangeSpec} {apart fresh handsOn again:Bool} {W W':World} {args:Array Value} {v:Value} {ds gs:List (DataW H)} {before pa pv:List MemPlace}
  (hW:DataW.Whole enc P f.params.toList s.vars apart W args.toList ds gs before)
  (hres : ∀ (b:Nat) (sp:Nat->Bool) (hd:Bool),DataW.TrodAll enc P W' b sp hd f.resultTypes.toList (v.resultList f.resultTypes.size) (s.fn H (ds++gs)).results [])
  (hargs : ∀sp:Nat->Bool,(∀p∈before,sp p.block=true)->DataW.TrodAll enc P W' 0 sp true f.params.toList args.toList (s.fn H (ds++gs)).args pa)
  (hvars : ∀sp:Nat->Bool,(∀p∈before,sp p.block=true)->DataW.TrodVars enc P W' sp s.vars (s.fn H (ds++gs)).vars pv)
  (hps:before=pa++pv) (hb:Below W.heap.size W W')
  (hok : ∀ (j:Nat) (t:TypeId) (r:Value),f.resultTypes[j]?=some t->(v.resultList f.resultTypes.size)[j]?=some r->Value.okWide P W' .any 0 t r) :
  s.post enc P f apart fresh handsOn again W args v W':=by
 have hlt : ∀p∈before,p.block<W.heap.size:=fun p hp=>hW.lt p hp
 have hold : ∀p∈before,(fun b=>decide (b<W.heap.size)) p.block=true:=fun p hp=>by simpa using hlt p hp
 refine⟨ds,gs,before,[],pa,pv,hW,hres _ _ _,hargs _ hold,hvars _ hold,World.keptBut_mono (fun p hp=>⟨hp,?_⟩) (hb.frame (· ∈ before)),fun _ => ?_⟩
 ·rw[hps,List.mem_append]at hp
  exact Or.inr hp
 ·obtain⟨_,_,_,_,_,hz,hn⟩:=hW
  refine⟨hok,_,_,([]++pa)++pv,⟨[]++pa,pv,trodAll_append (hargs _ (fun _ _=>rfl)) (hres _ _ _),hvars _ (fun _ _=>rfl),rfl,?_,?_⟩,?_⟩
  ·intro b off hp
   have hin:MemPlace.cell b off∈before:=by rw[hps];simpa using hp
   rw[hb.frozen (hlt _ hin)]
   exact hz b off hin
  ·intro ha
   have:=hn ha
   rw[hps]at this
   simpa using this
  ·intro p hp _
   rw[hps]
   simpa using hp
end
end Go.Proofs.YtcfjiolldehegaaGreatDoor
namespace Go.Ev
structure Cx where
 P:Program
 X:Callf
 mu:FuncId->Bool
 good:FuncId->Bool
def Fn (C:Cx) (f:FuncId) (args:List SV) (r:SV):Prop := ∃n e,callN C.P C.X C.mu C.good n f (args.map Arg.sv)=some (.sv r,e)
def WP (C:Cx) (c:Code) (st:St) (Q:Ex->St->Prop):Prop := ∃n e st',exec C.P (callN C.P C.X C.mu C.good n) C.mu n c st=some (e,st')/\Q e st'
def WO (C:Cx) (soft:Bool) (ops:Array Oper) (l:List Oper) (st:St) (Q:St->Prop):Prop:=
 ∃n st',execOps C.P (callN C.P C.X C.mu C.good n) C.mu soft ops l st=some st'/\Q st'
def nx (C:Cx) (b:Code) (Q:Ex->St->Prop) (e:Ex) (st:St):Prop:=match e with
 | .normal=>WP C b st Q
 |e=>Q e st
def bk (id:Nat) (Q:Ex->St->Prop) (e:Ex) (st:St):Prop:=match e with
 | .exit i=>if i=id then Q .normal st else Q (.exit i) st
 |e=>Q e st
def WJ (C:Cx) (c b:Code) (st:St) (Q:Ex->St->Prop):Prop:=
 ∃n e st',jumps (exec C.P (callN C.P C.X C.mu C.good n) C.mu n) c n (exec C.P (callN C.P C.X C.mu C.good n) C.mu n b st)=some (e,st')/\Q e st'
def SC (C:Cx) (c:Code) (Q:Ex->St->Prop) (e:Ex) (st:St):Prop:=match e with
 | .goto l=>match findLabel c l with
  |some rest=>WJ C c rest st Q
  |none=>Q (.goto l) st
 |e=>Q e st
def WV (C:Cx) (soft:Bool) (ops:Array Oper) (l:List Oper) (dst:Option Nat) (st:St) (Q:St->Prop) (v:Option TV):Prop:=match v with
 |some v=>WO C soft ops l (st.putO dst v) Q
 |none=>False
def WS (C:Cx) (soft:Bool) (ops:Array Oper) (l:List Oper) (Q:St->Prop) (s:Option St):Prop:=match s with
 |some st=>WO C soft ops l st Q
 |none=>False
def WB2 (C:Cx) (ops:Array Oper) (l:List Oper) (dst:Option Nat) (t:TypeId) (ps:Array (Nat×Operand)) (Q:St->Prop) (s:Option St):Prop:=match s with
 |some st=>WV C false ops l dst st Q (val C.P st (.build t ps))
 |none=>False
def WB (C:Cx) (soft:Bool) (ops:Array Oper) (l:List Oper) (dst:Option Nat) (t:TypeId) (ps:Array (Nat×Operand)) (st:St) (Q:St->Prop) (v:Option TV):Prop:=match v with
 |some v=>WO C soft ops l (st.putO dst v) Q
 |none=>if soft then False else WB2 C ops l dst t ps Q (frzAll st (ps.toList.map fun p=>st.eval p.2))
def WT2 (C:Cx) (ops:Array Oper) (l:List Oper) (dst:Option Nat) (t t':TypeId) (x:Operand) (Q:St->Prop) (s:Option St):Prop:=match s with
 |some st=>WV C false ops l dst st Q (val C.P st (.convert t t' x))
 |none=>False
def WT (C:Cx) (soft:Bool) (ops:Array Oper) (l:List Oper) (dst:Option Nat) (t t':TypeId) (x:Operand) (st:St) (Q:St->Prop) (v:Option TV):Prop:=match v with
 |some v=>WO C soft ops l (st.putO dst v) Q
 |none=>if soft then False else WT2 C ops l dst t t' x Q (frzAll st [st.eval x])
def WM2 (C:Cx) (ops:Array Oper) (l:List Oper) (dst:Option Nat) (f:Go.Fn) (fs ps:Array Operand) (Q:St->Prop) (s:Option St):Prop:=match s with
 |some st=>WV C false ops l dst st Q (val C.P st (.makeFunc f fs ps))
 |none=>False
def WM (C:Cx) (soft:Bool) (ops:Array Oper) (l:List Oper) (dst:Option Nat) (f:Go.Fn) (fs ps:Array Operand) (st:St) (Q:St->Prop) (v:Option TV):Prop:=match v with
 |some v=>WO C soft ops l (st.putO dst v) Q
 |none=>if soft then False else WM2 C ops l dst f fs ps Q (frzAll st (ps.toList.map st.eval))
def WF (C:Cx) (soft:Bool) (ops:Array Oper) (l:List Oper) (dst:Option Nat) (st:St) (Q:St->Prop) (g:FuncId) (ss:List SV):Prop:=
 ∃n,WS C soft ops l Q (afterCall soft dst st (callN C.P C.X C.mu C.good n g (ss.map Arg.sv)))
def WY (C:Cx) (ops:Array Oper) (l:List Oper) (dst:Option Nat) (st:St) (Q:St->Prop) (g:FuncId) (caps:List SV) (ss:Option (List SV)):Prop:=match ss with
 |some ss=>WF C false ops l dst st Q g (ss++caps)
 |none=>False
def WZ (C:Cx) (ops:Array Oper) (l:List Oper) (dst:Option Nat) (args:List Operand) (Q:St->Prop) (g:FuncId) (caps:List SV) (s:Option St):Prop:=match s with
 |some st=>WY C ops l dst st Q g caps (allSV (args.map st.eval))
 |none=>False
def WI (C:Cx) (ops:Array Oper) (l:List Oper) (dst:Option Nat) (st:St) (Q:St->Prop) (g:FuncId) (vs:List TV) (di:Bool) (ars:Option (List Arg)):Prop:=match ars with
 |some ars=>di=true /\ ∃n s exps st',callN C.P C.X C.mu C.good n g ars=some (.sv s,exps)/\expAll st vs (exps.take vs.length)=some st'/\WO C false ops l (st'.putO dst (.sv s)) Q
 |none=>False
def WR (C:Cx) (ops:Array Oper) (l:List Oper) (dst:Option Nat) (st:St) (Q:St->Prop) (g:FuncId) (caps:List SV) (vs:List TV):Prop:=
 ∃n,WS C true ops l Q (roCall (callN C.P C.X C.mu C.good n) (muS C.mu true ops) dst g caps vs st)
def WN (C:Cx) (ops:Array Oper) (l:List Oper) (dst:Option Nat) (st:St) (Q:St->Prop) (g:FuncId) (vs:List TV):Prop:=
 ∃n st' r e,callN C.P C.X C.mu C.good n g [.st false st vs]=some (.st st' r,e)/\WO C false ops l (st'.putO dst r) Q
def WL (C:Cx) (ops:Array Oper) (l:List Oper) (dst:Option Nat) (st:St) (Q:St->Prop) (g:FuncId) (vs:List TV):Prop:=
 noW ops=true /\ ∃n s e,callN C.P C.X C.mu C.good n g [.st true st vs]=some (.sv s,e)/\WO C true ops l (st.putO dst (.sv s)) Q
def WNS (C:Cx) (ops:Array Oper) (l:List Oper) (dst:Option Nat) (st:St) (Q:St->Prop) (g:FuncId) (vs:List TV):Prop:=
 C.mu (INL+g)=true /\ ∃n st' r e,callN C.P C.X C.mu C.good n g [.st false st vs]=some (.st st' r,e)/\WO C true ops l (st'.putO dst r) Q
def WQ (ops:Array Oper) (A B:Prop):Prop:=(soloR ops=true/\A)\/(soloR ops=false/\B)
theorem wq_yes {ops:Array Oper} {A B:Prop} (h:soloR ops=true) (a:A):WQ ops A B := .inl ⟨h,a⟩
theorem wq_no {ops:Array Oper} {A B:Prop} (h:soloR ops=false) (b:B):WQ ops A B := .inr ⟨h,b⟩
def WA (C:Cx) (soft:Bool) (ops:Array Oper) (l:List Oper) (dst:Option Nat) (args:List Operand) (st:St) (Q:St->Prop) (vs:List TV) (g:TV) (ss:Option (List SV)):Prop:=match g with
 | .sv (.fn g caps)=>match ss with
  |some ss=>WF C soft ops l dst st Q g (ss++caps)
  |none=>if soft then WQ ops (WNS C ops l dst st Q g (vs++caps.map TV.sv)) (if C.mu (INL+g) then WL C ops l dst st Q g (vs++caps.map TV.sv) else WR C ops l dst st Q g caps vs) else if C.mu g then if C.mu (INL+g) then WN C ops l dst st Q g (vs++caps.map TV.sv) else WI C ops l dst st Q g vs (distinct (impIds vs)) ((impArgs st vs).map (· ++ caps.map Arg.sv)) else WZ C ops l dst args Q g caps (frzAll st vs)
 |_=>False
def WG (C:Cx) (soft:Bool) (ops:Array Oper) (o:Oper) (l:List Oper) (st:St) (Q:St->Prop) (v:TV) (want:Bool):Prop:=match v with
 | .sv (.bool b)=>if b=want then WO C soft ops ({ o with guard:=none }::l) st Q else WO C soft ops l (st.putO o.dst .skip) Q
 | .skip=>WO C soft ops l (st.putO o.dst .skip) Q
 |_=>False
def WC (C:Cx) (v:TV) (t e:Code) (st:St) (Q:Ex->St->Prop):Prop:=match v with
 | .sv (.bool b)=>WP C (if b then t else e) st Q
 |_=>False
section
variable {C:Cx} {soft:Bool} {ops:Array Oper} {l:List Oper} {st:St} {Q:St->Prop} {R:Ex->St->Prop} {d:Nat} {dst:Option Nat}
 {ty:TypeId} {pos:String} {af:Array Edge}
theorem exec_up {n m k:Nat} {c:Code} {r:Ex×St} (h:exec C.P (callN C.P C.X C.mu C.good n) C.mu n c st=some r) (hm:n<=m) (hk:n<=k) :
  exec C.P (callN C.P C.X C.mu C.good m) C.mu k c st=some r:=exec_mono (callN_mono C.X hm) hk h
theorem ops_up {n m:Nat} {s:St} (h:execOps C.P (callN C.P C.X C.mu C.good n) C.mu soft ops l st=some s) (hm:n<=m) :
  execOps C.P (callN C.P C.X C.mu C.good m) C.mu soft ops l st=some s:=execOps_mono (callN_mono C.X hm) h
theorem vo_nil:WO C soft ops [] st Q=Q st:=
 propext ⟨fun ⟨n,s,h,q⟩=>by unfold execOps at h;cases h;exact q,fun q=>⟨0,st,rfl,q⟩⟩
theorem vo_step {o:Oper} {s:Option St} (h : ∀c,stepO C.P c C.mu soft ops o st=s):WO C soft ops (o::l) st Q=WS C soft ops l Q s:=by
 apply propext
 constructor
 ·rintro⟨n,s',h',q⟩
  unfold execOps at h'
  rw[h]at h'
  cases s with
  |none=>cases h'
  |some s=>exact⟨n,s',h',q⟩
 ·intro h'
  cases s with
  |none=>exact h'.elim
  |some s=>
   obtain⟨n,s',h',q⟩:=h'
   refine⟨n,s',?_,q⟩
   unfold execOps
   rw[h]
   exact h'
theorem vo_move {x:Operand}:WO C soft ops (⟨dst,.move x,ty,pos,af,none⟩::l) st Q=WO C soft ops l (st.putO dst (st.eval x)) Q:=vo_step (s:=some _) fun _=>by cases soft<;>rfl
theorem vo_assign {x:Operand}:WO C soft ops (⟨dst,.assign x,ty,pos,af,none⟩::l) st Q=WO C soft ops l (st.putO dst (st.eval x)) Q:=vo_step (s:=some _) fun _=>by cases soft<;>rfl
def isVal:Op->Bool
 | .pick .. | .nilCheck _ | .binOp .. | .unOp .. | .extract .. | .field .. | .fieldAddr .. | .indexAddr .. | .index .. | .slice .. => true
 | .call { callee := .builtin .len,.. }=>true
 | .call { callee := .builtin .min,.. }=>true
 | .call { callee := .builtin .max,.. }=>true
 | .call { callee := .builtin .cap,.. }=>true
 |_=>false
def idxB (s:ByteArray) (i:Nat):Option TV:=match s[i]? with
 |some b=>some (.sv (.int .u8 b.toNat))
 |none=>none
def idxV (P:Program) (t:TypeId) (v:TV) (i:Option Nat):Option TV:=match v,i with
 | .sv (.str s),some i=>if isStr P t then idxB s i else none
 |_,_=>none
def WK (C:Cx) (soft:Bool) (ops:Array Oper) (l:List Oper) (Q:St->Prop) (k:Bool) (s:Option St):Prop:=if k then WS C soft ops l Q s else False
theorem wk_true {s:Option St}:WK C soft ops l Q true s=WS C soft ops l Q s:=_root_.id rfl
theorem wk_intro {k:Bool} {s:Option St} (h:k=true) (h':WS C soft ops l Q s):WK C soft ops l Q k s:=by rw[h];exact h'
def loadSt (P:Program) (dst:Option Nat) (st:St) (t:TypeId) (x:Operand):Option St:=match val P st (.load t x) with
 |some v=>some (st.putO dst v)
 |none=>none
theorem vo_load {t:TypeId} {x:Operand}:WO C false ops (⟨dst,.load t x,ty,pos,af,none⟩::l) st Q=WS C false ops l Q (loadSt C.P dst st t x):=vo_step fun _=>rfl
theorem step_mu {mu mu':FuncId->Bool} {c:Callf} {op:Op} (h:isMem op=true):step C.P c mu soft dst op st=step C.P c mu' soft dst op st:=by
 cases op<;>first|rfl|cases h
theorem stepS_val {mu:FuncId->Bool} {c:Callf} {op:Op} (h:isVCall op=false):stepS C.P c mu soft ops dst op st=if soft&&isMem op && !lkv ops op (adrOp st op) then none else step C.P c (muS mu soft ops) soft dst op st:=by
 unfold stepS
 rw[h]
 rfl
theorem vo_step' {op:Op} {s:Option St} (hm:isMem op=true) (h : ∀c,step C.P c C.mu true dst op st=s):WO C true ops (⟨dst,op,ty,pos,af,none⟩::l) st Q=WK C true ops l Q (lkv ops op (adrOp st op)) s:=by
 have : ∀c,stepO C.P c C.mu true ops ⟨dst,op,ty,pos,af,none⟩ st=if lkv ops op (adrOp st op) then s else none:=fun c=>by
  have hv:isVCall op=false:=by cases op<;>first|rfl|cases hm
  simp only[stepO,stepS_val hv,hm,(step_mu (mu':=C.mu) hm).trans (h _),Bool.true_and]
  cases lkv ops op (adrOp st op)<;>rfl
 rw[vo_step this]
 unfold WK
 cases lkv ops op (adrOp st op)<;>rfl
theorem vo_loadS {t:TypeId} {x:Operand}:WO C true ops (⟨dst,.load t x,ty,pos,af,none⟩::l) st Q=WK C true ops l Q (lkv ops (.load t x) (st.eval x).adr) (loadSt C.P dst st t x):=vo_step' rfl fun _=>rfl
theorem vo_storeS {t:TypeId} {a x:Operand}:WO C true ops (⟨none,.store t a x,ty,pos,af,none⟩::l) st Q=WK C true ops l Q (lkv ops (.store t a x) (st.eval a).adr) (store C.P true st t a x):=vo_step' rfl fun _=>rfl
theorem vo_allocS {t:TypeId}:WO C true ops (⟨some d,.alloc t,ty,pos,af,none⟩::l) st Q=WK C true ops l Q (lkv ops (.alloc t) none) (hard C.P (some d) st (.alloc t)):=vo_step' rfl fun _=>rfl
theorem vo_makeS {t:TypeId} {x y:Operand}:WO C true ops (⟨some d,.makeSlice t x y,ty,pos,af,none⟩::l) st Q=WK C true ops l Q (lkv ops (.makeSlice t x y) none) (hard C.P (some d) st (.makeSlice t x y)):=vo_step' rfl fun _=>rfl
theorem step_val {mu:FuncId->Bool} {c:Callf} {op:Op} (h:isVal op=true):step C.P c mu soft dst op st=(match val C.P st op with|some v=>some (st.putO dst v)|none=>none):=by
 unfold isVal at h
 split at h<;>first|(cases h;done)|(show (match val C.P st _ with|some v=>some (st.putO dst v)|none=>if soft then none else none)=_;cases val C.P st _<;>cases soft<;>rfl)
theorem isVal_mem {op:Op} (h:isVal op=true):isMem op=false:=by
 cases op<;>first|rfl|cases h
theorem isVal_call {op:Op} (h:isVal op=true):isVCall op=false:=by
 unfold isVal at h
 split at h<;>first|rfl|cases h
theorem vo_val {op:Op} (h:isVal op=true):WO C soft ops (⟨dst,op,ty,pos,af,none⟩::l) st Q=WV C soft ops l dst st Q (val C.P st op):=by
 have hs : ∀c,stepO C.P c C.mu soft ops ⟨dst,op,ty,pos,af,none⟩ st=(match val C.P st op with|some v=>some (st.putO dst v)|none=>none):=fun c=>by
  show stepS _ _ _ _ _ _ _ _=_
  rw[stepS_val (isVal_call h),isVal_mem h,Bool.and_false,Bool.false_and,if_neg (by simp)]
  exact step_val (c:=c) h
 rw[vo_step hs]
 cases val C.P st op<;>rfl
section
variable {x y z:Operand} {t t':TypeId} {n:Nat}
theorem vo_nilCheck:WO C soft ops (⟨dst,.nilCheck x,ty,pos,af,none⟩::l) st Q=WV C soft ops l dst st Q (val C.P st (.nilCheck x)):=vo_val rfl
theorem vo_pick:WO C soft ops (⟨dst,.pick x y z,ty,pos,af,none⟩::l) st Q=WV C soft ops l dst st Q (val C.P st (.pick x y z)):=vo_val rfl
theorem vo_build {ps:Array (Nat×Operand)}:WO C soft ops (⟨dst,.build t ps,ty,pos,af,none⟩::l) st Q=WB C soft ops l dst t ps st Q (val C.P st (.build t ps)):=by
 have hs : ∀c,stepO C.P c C.mu soft ops ⟨dst,.build t ps,ty,pos,af,none⟩ st=(match val C.P st (.build t ps) with|some v=>some (st.putO dst v)|none=>if soft then none else frzV C.P dst st (.build t ps)):=fun c=>by
  show stepS _ _ _ _ _ _ _ _=_
  rw[stepS_val rfl,show isMem (.build t ps)=false from rfl,Bool.and_false,Bool.false_and,if_neg (by simp)]
  rfl
 rw[vo_step hs]
 cases val C.P st (.build t ps) with
 |some v=>rfl
 |none=>
  cases soft with
  |true=>rfl
  |false=>
   show WS C false ops l Q (frzV C.P dst st (.build t ps))=WB2 C ops l dst t ps Q (frzAll st (ps.toList.map fun p=>st.eval p.2))
   unfold frzV
   dsimp only
   cases frzAll st (ps.toList.map fun p=>st.eval p.2) with
   |none=>rfl
   |some s1=>
    show WS C false ops l Q (match val C.P s1 (.build t ps) with|some v=>some (s1.putO dst v)|none=>none)=WV C false ops l dst s1 Q (val C.P s1 (.build t ps))
    cases val C.P s1 (.build t ps)<;>rfl
theorem vo_bin {op:BinOp}:WO C soft ops (⟨dst,.binOp op t x y t',ty,pos,af,none⟩::l) st Q=WV C soft ops l dst st Q (val C.P st (.binOp op t x y t')):=vo_val rfl
theorem vo_un {op:UnOp}:WO C soft ops (⟨dst,.unOp op t x,ty,pos,af,none⟩::l) st Q=WV C soft ops l dst st Q (val C.P st (.unOp op t x)):=vo_val rfl
theorem vo_extract:WO C soft ops (⟨dst,.extract x n,ty,pos,af,none⟩::l) st Q=WV C soft ops l dst st Q (val C.P st (.extract x n)):=vo_val rfl
theorem vo_field:WO C soft ops (⟨dst,.field t x n,ty,pos,af,none⟩::l) st Q=WV C soft ops l dst st Q (val C.P st (.field t x n)):=vo_val rfl
theorem vo_fieldAddr:WO C soft ops (⟨dst,.fieldAddr t x n,ty,pos,af,none⟩::l) st Q=WV C soft ops l dst st Q (val C.P st (.fieldAddr t x n)):=vo_val rfl
theorem vo_indexAddr:WO C soft ops (⟨dst,.indexAddr t x y,ty,pos,af,none⟩::l) st Q=WV C soft ops l dst st Q (val C.P st (.indexAddr t x y)):=vo_val rfl
theorem isStr_match2 {α:Type} (o:Option TypeDesc) (a:Option α):(match o with|some .string=>a|_=>none)=if (match o with|some .string=>true|_=>false)=true then a else none:=by
 cases o with
 |none=>rfl
 |some d=>cases d<;>rfl
theorem vo_index:WO C soft ops (⟨dst,.index t x y,ty,pos,af,none⟩::l) st Q=WV C soft ops l dst st Q (val C.P st (.index t x y)):=vo_val rfl
theorem vo_ix:WO C soft ops (⟨dst,.index t x y,ty,pos,af,none⟩::l) st Q=WV C soft ops l dst st Q (idxV C.P t (st.eval x) (natTV (st.eval y))):=by
 rw[vo_val rfl]
 congr 1
 simp only[val,idxV,isStr]
 cases natTV (st.eval y) with
 |none=>cases st.eval x with
  |sv s=>cases s<;>rfl
  |_=>rfl
 |some i=>
  cases hx:st.eval x with
  |sv s=>
   cases s with
   |str b=>
    exact isStr_match2 _ _
   |_=>rfl
  |_=>rfl
theorem vo_slice {lo hi mx:Option Operand}:WO C soft ops (⟨dst,.slice t x lo hi mx,ty,pos,af,none⟩::l) st Q=WV C soft ops l dst st Q (val C.P st (.slice t x lo hi mx)):=vo_val rfl
theorem vo_convert:WO C soft ops (⟨dst,.convert t t' x,ty,pos,af,none⟩::l) st Q=WT C soft ops l dst t t' x st Q (val C.P st (.convert t t' x)):=by
 have hs : ∀c,stepO C.P c C.mu soft ops ⟨dst,.convert t t' x,ty,pos,af,none⟩ st=(match val C.P st (.convert t t' x) with|some v=>some (st.putO dst v)|none=>if soft then none else frzV C.P dst st (.convert t t' x)):=fun c=>by
  show stepS _ _ _ _ _ _ _ _=_
  rw[stepS_val rfl,show isMem (.convert t t' x)=false from rfl,Bool.and_false,Bool.false_and,if_neg (by simp)]
  rfl
 rw[vo_step hs]
 cases val C.P st (.convert t t' x) with
 |some v=>rfl
 |none=>
  cases soft with
  |true=>rfl
  |false=>
   show WS C false ops l Q (frzV C.P dst st (.convert t t' x))=WT2 C ops l dst t t' x Q (frzAll st [st.eval x])
   unfold frzV
   dsimp only
   cases frzAll st [st.eval x]with
   |none=>rfl
   |some s1=>
    show WS C false ops l Q (match val C.P s1 (.convert t t' x) with|some v=>some (s1.putO dst v)|none=>none)=WV C false ops l dst s1 Q (val C.P s1 (.convert t t' x))
    cases val C.P s1 (.convert t t' x)<;>rfl
theorem vo_makeFunc {f:Go.Fn} {ps fs:Array Operand}:WO C soft ops (⟨dst,.makeFunc f fs ps,ty,pos,af,none⟩::l) st Q=WM C soft ops l dst f fs ps st Q (val C.P st (.makeFunc f fs ps)):=by
 have hs : ∀c,stepO C.P c C.mu soft ops ⟨dst,.makeFunc f fs ps,ty,pos,af,none⟩ st=(match val C.P st (.makeFunc f fs ps) with|some v=>some (st.putO dst v)|none=>if soft then none else frzV C.P dst st (.makeFunc f fs ps)):=fun c=>by
  show stepS _ _ _ _ _ _ _ _=_
  rw[stepS_val rfl,show isMem (.makeFunc f fs ps)=false from rfl,Bool.and_false,Bool.false_and,if_neg (by simp)]
  rfl
 rw[vo_step hs]
 cases val C.P st (.makeFunc f fs ps) with
 |some v=>rfl
 |none=>
  cases soft with
  |true=>rfl
  |false=>
   show WS C false ops l Q (frzV C.P dst st (.makeFunc f fs ps))=WM2 C ops l dst f fs ps Q (frzAll st (ps.toList.map st.eval))
   unfold frzV
   dsimp only
   cases frzAll st (ps.toList.map st.eval) with
   |none=>rfl
   |some s1=>
    show WS C false ops l Q (match val C.P s1 (.makeFunc f fs ps) with|some v=>some (s1.putO dst v)|none=>none)=WV C false ops l dst s1 Q (val C.P s1 (.makeFunc f fs ps))
    cases val C.P s1 (.makeFunc f fs ps)<;>rfl
end
theorem isStr_match {α:Type} (o:Option TypeDesc) (a:α):(match o with|some .string=>some a|_=>none)=if (match o with|some .string=>true|_=>false)=true then some a else none:=by
 cases o with
 |none=>rfl
 |some d=>cases d<;>rfl
def lenV (P:Program) (t:TypeId) (v:TV):Option TV:=match lenTV v,v with
 |some n,.sv (.str _)=>if isStr P t then some (.sv (.int .i64 n)) else none
 |some n,_=>match elm P t with
  |some _=>some (.sv (.int .i64 n))
  |none=>none
 |none,_=>none
theorem vo_len {x:Operand} {t:TypeId}:WO C soft ops (⟨dst,.call { callee := .builtin .len,args := #[x],argTypes := #[t] },ty,pos,af,none⟩::l) st Q=WV C soft ops l dst st Q (lenV C.P t (st.eval x)):=by
 rw[vo_val rfl]
 congr 1
 simp only[val,lenV,isStr]
 cases hl:lenTV (st.eval x) with
 |none=>rfl
 |some n=>
  cases hx:st.eval x with
  |sv s=>
   cases s with
   |str b=>
    dsimp only
    exact isStr_match _ _
   |_=>rfl
  |_=>rfl
theorem vo_min {args:Array Operand} {tys:Array TypeId}:WO C soft ops (⟨dst,.call { callee := .builtin .min,args:=args,argTypes:=tys },ty,pos,af,none⟩::l) st Q =
  WV C soft ops l dst st Q (match allSV (args.toList.map st.eval) with|some l=>(minSV l).map TV.sv|none=>none):=vo_val rfl
theorem vo_max {args:Array Operand} {tys:Array TypeId}:WO C soft ops (⟨dst,.call { callee := .builtin .max,args:=args,argTypes:=tys },ty,pos,af,none⟩::l) st Q =
  WV C soft ops l dst st Q (match allSV (args.toList.map st.eval) with|some l=>(maxSV l).map TV.sv|none=>none):=vo_val rfl
theorem vo_alloc {t:TypeId}:WO C false ops (⟨some d,.alloc t,ty,pos,af,none⟩::l) st Q=WS C false ops l Q (hard C.P (some d) st (.alloc t)):=vo_step fun _=>rfl
theorem vo_box {t:TypeId} {x:Operand}:WO C soft ops (⟨some d,.box t x,ty,pos,af,none⟩::l) st Q=WS C soft ops l Q (hard C.P (some d) st (.box t x)):=vo_step fun _=>by cases soft<;>rfl
theorem vo_makeH {t:TypeId} {x y:Operand}:WO C false ops (⟨some d,.makeSlice t x y,ty,pos,af,none⟩::l) st Q=WS C false ops l Q (hard C.P (some d) st (.makeSlice t x y)):=vo_step fun _=>rfl
theorem vo_lit {t:TypeId} {n:Nat} {ps:Array (Nat×Operand)}:WO C false ops (⟨some d,.buildSlice t n ps,ty,pos,af,none⟩::l) st Q=WS C false ops l Q (hard C.P (some d) st (.buildSlice t n ps)):=vo_step fun _=>rfl
def softLit (P:Program) (dst:Option Nat) (st:St) (t:TypeId) (n:Nat) (parts:Array (Nat×Operand)):Option St:=
 match litC P st t n parts with
 |some (_,cs)=>some (st.putO dst (.sv (.sl n cs)))
 |none=>none
theorem vo_softlit {t:TypeId} {n:Nat} {ps:Array (Nat×Operand)}:WO C true ops (⟨dst,.buildSlice t n ps,ty,pos,af,none⟩::l) st Q=WS C true ops l Q (softLit C.P dst st t n ps):=vo_step fun _=>rfl
theorem vo_store {t:TypeId} {a x:Operand}:WO C false ops (⟨none,.store t a x,ty,pos,af,none⟩::l) st Q=WS C false ops l Q (store C.P false st t a x):=vo_step fun _=>rfl
theorem vo_append {s x:Operand} {t:TypeId}:WO C soft ops (⟨dst,.call { callee := .builtin .append,args := #[s,x],argTypes := #[t,t] },ty,pos,af,none⟩::l) st Q=WS C soft ops l Q (append C.P dst st t s x):=
 vo_step fun _=>by cases soft<;>simp[stepO,stepS,step,isVCall,isMem,isStore,isLoad,isAlloc]
theorem vo_copy {s x:Operand} {t t':TypeId}:WO C soft ops (⟨dst,.call { callee := .builtin .copy,args := #[s,x],argTypes := #[t,t'] },ty,pos,af,none⟩::l) st Q=WS C soft ops l Q (copy C.P dst st t s x):=
 vo_step fun _=>by cases soft<;>rfl
theorem vo_cap {x:Operand} {t:TypeId}:WO C soft ops (⟨dst,.call { callee := .builtin .cap,args := #[x],argTypes := #[t] },ty,pos,af,none⟩::l) st Q =
  WV C soft ops l dst st Q (match capTV (st.eval x),elm C.P t with|some n,some _=>some (.sv (.int .i64 n))|_,_=>none):=vo_val rfl
theorem vo_clear {x:Operand} {t:TypeId}:WO C soft ops (⟨none,.call { callee := .builtin .clear,args := #[x],argTypes := #[t] },ty,pos,af,none⟩::l) st Q=WS C soft ops l Q (clearS C.P st t x):=
 vo_step fun _=>by cases soft<;>rfl
theorem vo_appendZ {s x:Operand} {t t':TypeId} (h:t≠t'):WO C soft ops (⟨dst,.call { callee := .builtin .append,args := #[s,x],argTypes := #[t,t'] },ty,pos,af,none⟩::l) st Q=WS C soft ops l Q (appendZ C.P dst st t t' s x):=
 vo_step fun _=>by
  have e : ∀A B:Option St,(if t=t' then A else B)=B:=fun A B=>if_neg h
  cases soft<;>simp[stepO,stepS,step,isVCall,isMem,isStore,isLoad,isAlloc,e]
def acallW (C:Cx) (soft:Bool) (ops:Array Oper) (dst:Option Nat) (f:Operand) (args:List Operand) (st:St) (c:Callf):Option St:=
 if soft&&soloR ops then acallS c C.mu dst f args st else acall c (muS C.mu soft ops) soft dst f args st
theorem acallW_mono {c c':Callf} (hc:CallLe c c') {f:Operand} {args:List Operand} {s:St} (h:acallW C soft ops dst f args st c=some s):acallW C soft ops dst f args st c'=some s:=by
 unfold acallW at h ⊢
 split at h
 ·rename_i hy
  rw[if_pos hy]
  exact stepV_mono (op := .call { callee := .value f,args:=args.toArray,argTypes := #[] }) hc h
 ·rename_i hy
  rw[if_neg hy]
  exact acall_mono hc h
theorem vo_acall {f:Operand} {args:Array Operand} {tys:Array TypeId} :
  WO C soft ops (⟨dst,.call { callee := .value f,args:=args,argTypes:=tys },ty,pos,af,none⟩::l) st Q = ∃n,WS C soft ops l Q (acallW C soft ops dst f args.toList st (callN C.P C.X C.mu C.good n)):=by
 have e : ∀c,stepO C.P c C.mu soft ops ⟨dst,.call { callee := .value f,args:=args,argTypes:=tys },ty,pos,af,none⟩ st=acallW C soft ops dst f args.toList st c:=fun c=>by
  show stepS _ _ _ _ _ _ _ _=_
  unfold stepS acallW
  cases soft with
  |false=>rw[Bool.and_false,Bool.and_false];rfl
  |true=>
   rw[Bool.and_true]
   cases hs:soloR ops<;>rfl
 apply propext
 constructor
 ·rintro⟨n,s,h,q⟩
  unfold execOps at h
  rw[e]at h
  refine⟨n,?_⟩
  cases hx:acallW C soft ops dst f args.toList st (callN C.P C.X C.mu C.good n) with
  |none=>rw[hx]at h;cases h
  |some s1=>rw[hx]at h;exact⟨n,s,h,q⟩
 ·rintro⟨n,h⟩
  cases hx:acallW C soft ops dst f args.toList st (callN C.P C.X C.mu C.good n) with
  |none=>rw[hx]at h;exact h.elim
  |some s1=>
   rw[hx]at h
   obtain⟨m,s,h,q⟩:=h
   refine⟨max n m,s,?_,q⟩
   unfold execOps
   rw[e,acallW_mono (callN_mono C.X (Nat.le_max_left n m)) hx]
   exact ops_up h (Nat.le_max_right n m)
theorem ws_none:WS C soft ops l Q none=False:=_root_.id rfl
theorem ex_false:(∃_:Nat,False)=False:=by simp
theorem roCall_no {call:Callf} {mu:FuncId->Bool} {g:FuncId} {caps:List SV} {vs:List TV} (h:mu g=false):roCall call mu dst g caps vs st=none:=by
 unfold roCall
 split
 ·split
  ·rfl
  ·split
   ·rw[h];rfl
   ·rfl
 ·rfl
theorem vo_call {f:Operand} {args:Array Operand} {tys:Array TypeId} :
  WO C soft ops (⟨dst,.call { callee := .value f,args:=args,argTypes:=tys },ty,pos,af,none⟩::l) st Q=WA C soft ops l dst args.toList st Q (args.toList.map st.eval) (st.eval f) (allSV (args.toList.map st.eval)):=by
 rw[vo_acall]
 unfold acallW
 cases hso:soft&&soloR ops with
 |true=>
  rw[Bool.and_eq_true]at hso
  obtain⟨rfl,hso⟩:=hso
  simp only[if_true]
  unfold acallS
  split
  ·rename_i g caps hg
   rw[hg]
   unfold WA
   cases hss:allSV (args.toList.map st.eval) with
   |some ss=>rfl
   |none=>
    simp only[if_true]
    apply propext
    constructor
    ·rintro⟨n,h⟩
     refine wq_yes hso ?_
     split at h
     ·rename_i hm
      unfold inCall at h
      split at h
      ·rename_i s r e hc
       exact⟨hm,n,s,r,e,hc,h⟩
      ·exact h.elim
     ·exact h.elim
    ·rintro(⟨_,hm,n,s,r,e,hc,h⟩|⟨h,_⟩)
     ·refine⟨n,?_⟩
      rw[if_pos hm]
      unfold inCall
      rw[hc]
      exact h
     ·rw[hso]at h;cases h
  ·rename_i hno
   simp only[ws_none,ex_false]
   unfold WA
   split
   ·rename_i g caps he
    exact absurd he (hno g caps)
   ·rfl
 |false=>
 simp only[Bool.false_eq_true,if_false]
 unfold acall
 split
 ·rename_i g caps hg
  rw[hg]
  unfold WA
  cases hss:allSV (args.toList.map st.eval) with
  |some ss=>rfl
  |none=>
   simp only
   cases soft with
   |true=>
    rw[Bool.true_and]at hso
    have hq : ∀A B:Prop,WQ ops A B=B:=fun A B=>propext ⟨fun h=>h.elim (fun h=>by rw[hso]at h;cases h.1) (fun h=>h.2),fun h => .inr ⟨hso,h⟩⟩
    simp only[if_true,hq]
    have hm : ∀h,muS C.mu true ops h=(C.mu h&&noW ops):=fun _=>rfl
    cases hi:C.mu (INL+g) with
    |false=>simp only[hm,hi,Bool.false_and,Bool.false_eq_true,if_false,WR]
    |true=>
     simp only[hm,hi,Bool.true_and,if_true]
     unfold WL
     cases hw:noW ops with
     |false=>
      simp only[Bool.false_eq_true,if_false,false_and]
      apply propext
      constructor
      ·rintro⟨n,h⟩
       rw[roCall_no (by rw[hm,hw,Bool.and_false])]at h
       exact h
      ·exact fun h=>h.elim
     |true=>
      simp only[if_true,true_and]
      apply propext
      constructor
      ·rintro⟨n,h⟩
       unfold inLook at h
       split at h
       ·rename_i s e hc
        exact⟨n,s,e,hc,h⟩
       ·exact h.elim
      ·rintro⟨n,s,e,hc,h⟩
       refine⟨n,?_⟩
       unfold inLook
       rw[hc]
       exact h
   |false=>
    simp only[Bool.false_eq_true,if_false]
    rw[show muS C.mu false ops=C.mu from rfl]
    cases hmu:C.mu g with
    |false=>
     simp only[Bool.false_eq_true,if_false]
     cases hz:frzAll st (args.toList.map st.eval) with
     |none=>simp only[WZ,ws_none,ex_false]
     |some st' =>
      simp only[WZ]
      cases hs2:allSV (args.toList.map st'.eval) with
      |none=>simp only[WY,ws_none,ex_false]
      |some ss=>rfl
    |true=>
     simp only[if_true]
     cases hi:C.mu (INL+g) with
     |true=>
      simp only[if_true]
      unfold WN
      apply propext
      constructor
      ·rintro⟨n,h⟩
       unfold inCall at h
       split at h
       ·rename_i s r e hc
        exact⟨n,s,r,e,hc,h⟩
       ·exact h.elim
      ·rintro⟨n,s,r,e,hc,h⟩
       refine⟨n,?_⟩
       unfold inCall
       rw[hc]
       exact h
     |false=>
     simp only[Bool.false_eq_true,if_false]
     unfold WI
     cases hd:distinct (impIds (args.toList.map st.eval)) with
     |false=>
      simp only[Bool.false_eq_true,if_false,ws_none,ex_false,false_and]
      cases impArgs st (args.toList.map st.eval)<;>rfl
     |true=>
      simp only[if_true,true_and]
      cases has:impArgs st (args.toList.map st.eval) with
      |none=>simp only[Option.map_none,ws_none,ex_false]
      |some ars=>
       simp only[Option.map_some]
       apply propext
       constructor
       ·rintro⟨n,h⟩
        cases hc:callN C.P C.X C.mu C.good n g (ars++caps.map Arg.sv) with
        |none=>rw[hc]at h;exact h.elim
        |some re=>
         obtain⟨r,exps⟩:=re
         rw[hc]at h
         simp only at h
         cases hx:expAll st (args.toList.map st.eval) (exps.take args.toList.length) with
         |none=>rw[hx]at h;exact h.elim
         |some st' =>
          rw[hx]at h
          cases r with
          |obj cs=>exact h.elim
          |row=>exact h.elim
          |heap=>exact h.elim
          |st=>exact h.elim
          |sv s=>exact⟨n,s,exps,st',hc,by rw[List.length_map];exact hx,h⟩
       ·rintro⟨n,s,exps,st',hc,hx,h⟩
        rw[List.length_map]at hx
        exact⟨n,by rw[hc];simp only;rw[hx];exact h⟩
 ·rename_i hne
  unfold WA
  split
  ·rename_i g caps hg
   exact(hne _ _ hg).elim
  ·simp only[ws_none,ex_false]
theorem vo_guard {op:Op} {j:Nat} {want:Bool} {t:Nat} (h:(ops[j]?).bind (·.dst)=some t) :
  WO C soft ops (⟨dst,op,ty,pos,af,some (j,want)⟩::l) st Q=WG C soft ops ⟨dst,op,ty,pos,af,none⟩ l st Q (st.tmp t) want:=by
 have hs : ∀c,stepO C.P c C.mu soft ops ⟨dst,op,ty,pos,af,some (j,want)⟩ st=match st.tmp t with
   | .sv (.bool b)=>if b=want then stepS C.P c C.mu soft ops dst op st else some (st.putO dst .skip)
   | .skip=>some (st.putO dst .skip)
   |_=>none:=fun c=>by simp only[stepO,h];rfl
 unfold WG
 split
 ·rename_i b hb
  by_cases hw:b=want
  ·rw[if_pos hw]
   have hs' : ∀c,stepO C.P c C.mu soft ops ⟨dst,op,ty,pos,af,some (j,want)⟩ st=stepO C.P c C.mu soft ops ⟨dst,op,ty,pos,af,none⟩ st:=fun c=>by
    rw[hs,hb]
    simp[hw,stepO]
   unfold WO
   simp only[execOps,hs']
  ·rw[if_neg hw]
   exact vo_step (s:=some _) fun c=>by rw[hs,hb];simp[hw]
 ·rename_i hb
  exact vo_step (s:=some _) fun c=>by rw[hs,hb]
 ·rename_i hn hn2
  refine propext ⟨?_,fun h=>h.elim⟩
  rintro⟨n,s,he,_⟩
  unfold execOps at he
  rw[hs]at he
  split at he
  ·rename_i hx
   split at hx
   ·rename_i b hb
    exact absurd hb (hn b)
   ·rename_i hb
    exact absurd hb hn2
   ·cases hx
  ·cases he
def gdst (ops:Array Oper) (j:Nat):Option Nat:=(ops[j]?).bind (·.dst)
def WG2 (C:Cx) (soft:Bool) (ops:Array Oper) (o:Oper) (l:List Oper) (st:St) (Q:St->Prop) (want:Bool) (t:Option Nat):Prop:=match t with
 |some t=>WG C soft ops o l st Q (st.tmp t) want
 |none=>WO C soft ops l st Q/\False
theorem vo_guard2 {op:Op} {j:Nat} {want:Bool}:WO C soft ops (⟨dst,op,ty,pos,af,some (j,want)⟩::l) st Q=WG2 C soft ops ⟨dst,op,ty,pos,af,none⟩ l st Q want (gdst ops j):=by
 cases h:gdst ops j with
 |some t=>exact vo_guard h
 |none=>
  apply propext
  constructor
  ·rintro⟨n,s,he,_⟩
   unfold execOps at he
   have:stepO C.P (callN C.P C.X C.mu C.good n) C.mu soft ops ⟨dst,op,ty,pos,af,some (j,want)⟩ st=none:=by
    unfold stepO
    have h':(ops[j]?).bind (·.dst)=none:=h
    simp only[h']
   rw[this]at he
   cases he
  ·rintro⟨_,h⟩
   exact h.elim
theorem wg2_some {o:Oper} {want:Bool} {t:Nat}:WG2 C soft ops o l st Q want (some t)=WG C soft ops o l st Q (st.tmp t) want:=_root_.id rfl
theorem wg_tt {ty:TypeId} {pos:String} {af:Array Edge} {op:Op}:WG C soft ops ⟨dst,op,ty,pos,af,none⟩ l st Q (.sv (.bool true)) true=WO C soft ops (⟨dst,op,ty,pos,af,none⟩::l) st Q:=_root_.id rfl
theorem wg_ff {ty:TypeId} {pos:String} {af:Array Edge} {op:Op}:WG C soft ops ⟨dst,op,ty,pos,af,none⟩ l st Q (.sv (.bool false)) false=WO C soft ops (⟨dst,op,ty,pos,af,none⟩::l) st Q:=_root_.id rfl
theorem wg_tf {ty:TypeId} {pos:String} {af:Array Edge} {op:Op}:WG C soft ops ⟨dst,op,ty,pos,af,none⟩ l st Q (.sv (.bool true)) false=WO C soft ops l (st.putO dst .skip) Q:=_root_.id rfl
theorem wg_ft {ty:TypeId} {pos:String} {af:Array Edge} {op:Op}:WG C soft ops ⟨dst,op,ty,pos,af,none⟩ l st Q (.sv (.bool false)) true=WO C soft ops l (st.putO dst .skip) Q:=_root_.id rfl
theorem wg_skip {ty:TypeId} {pos:String} {af:Array Edge} {op:Op} {want:Bool}:WG C soft ops ⟨dst,op,ty,pos,af,none⟩ l st Q .skip want=WO C soft ops l (st.putO dst .skip) Q:=_root_.id rfl
theorem wg_congr {o:Oper} {want:Bool} {v v':TV} (h:v=v'):WG C soft ops o l st Q v want=WG C soft ops o l st Q v' want:=by rw[h]
theorem wg2_congr {o:Oper} {want:Bool} {t t':Option Nat} (h:t=t'):WG2 C soft ops o l st Q want t=WG2 C soft ops o l st Q want t':=by rw[h]
theorem vp_region' {id:Nat} {draw:Bool} (hl:(draw&&looseR C.mu ops)=false):WP C (.region id ops draw) st R=WS C draw ops ops.toList (R .normal) (preFrz C.P draw ops st):=by
 apply propext
 constructor
 ·rintro⟨n,e,s,h,q⟩
  cases n with
  |zero=>simp[exec]at h
  |succ n=>
   unfold exec at h
   dsimp only at h
   simp only[hl,Bool.false_eq_true,if_false]at h
   cases h0:preFrz C.P draw ops st with
   |none=>rw[h0]at h;cases h
   |some st0=>
    rw[h0]at h
    dsimp only at h
    cases hx:execOps C.P (callN C.P C.X C.mu C.good (n+1)) C.mu draw ops ops.toList st0 with
    |none=>rw[hx]at h;cases h
    |some s'=>rw[hx]at h;cases h;exact⟨_,_,hx,q⟩
 ·intro h
  cases h0:preFrz C.P draw ops st with
  |none=>rw[h0]at h;exact h.elim
  |some st0=>
   rw[h0]at h
   obtain⟨n,s,h,q⟩:=h
   refine⟨n+1,.normal,s,?_,q⟩
   unfold exec
   dsimp only
   simp only[hl,Bool.false_eq_true,if_false]
   rw[h0]
   dsimp only
   rw[ops_up h (Nat.le_succ n)]
theorem vp_region {id:Nat}:WP C (.region id ops false) st R=WO C false ops ops.toList st (R .normal):=vp_region' rfl
theorem vp_draw {id:Nat} {l:List Nat} (h:rootsOf C.P ops=l) (k:WS C true ops ops.toList (R .normal) (frzAll st ((l.map st.tmp).filter ownRef))) (hl:looseR C.mu ops=false:=by kernel_rfl):WP C (.region id ops true) st R:=by
 rw[vp_region' (by rw[hl];rfl)]
 unfold preFrz
 rw[if_pos rfl,h]
 exact k
theorem vp_seq {a b:Code}:WP C (.seq a b) st R=WP C a st (nx C b R):=by
 apply propext
 constructor
 ·rintro⟨n,e,s,h,q⟩
  cases n with
  |zero=>simp[exec]at h
  |succ n=>
   unfold exec at h
   dsimp only at h
   cases hx:exec C.P (callN C.P C.X C.mu C.good (n+1)) C.mu n a st with
   |none=>rw[hx]at h;cases h
   |some x=>
    obtain⟨x,s'⟩:=x
    rw[hx]at h
    refine⟨n+1,x,s',exec_mono (CallLe.refl _) (Nat.le_succ n) hx,?_⟩
    cases x with
    |normal=>exact⟨n+1,e,s,exec_mono (CallLe.refl _) (Nat.le_succ n) h,q⟩
    |exit i=>cases h;exact q
    |ret=>cases h;exact q
    |goto l=>cases h;exact q
 ·rintro⟨n,e,s,h,q⟩
  cases e with
  |normal=>
   obtain⟨m,e',s',h',q'⟩:=q
   refine⟨max n m+1,e',s',?_,q'⟩
   unfold exec
   dsimp only
   rw[exec_up h (by omega) (by omega)]
   exact exec_up h' (by omega) (by omega)
  |exit i=>
   refine⟨n+1,_,s,?_,q⟩
   unfold exec
   dsimp only
   rw[exec_up h (by omega) (by omega)]
  |ret=>
   refine⟨n+1,_,s,?_,q⟩
   unfold exec
   dsimp only
   rw[exec_up h (by omega) (by omega)]
  |goto l=>
   refine⟨n+1,_,s,?_,q⟩
   unfold exec
   dsimp only
   rw[exec_up h (by omega) (by omega)]
theorem vp_block {id:Nat} {c:Code}:WP C (.block id c) st R=WP C c st (bk id R):=by
 apply propext
 constructor
 ·rintro⟨n,e,s,h,q⟩
  cases n with
  |zero=>simp[exec]at h
  |succ n=>
   unfold exec at h
   dsimp only at h
   cases hx:exec C.P (callN C.P C.X C.mu C.good (n+1)) C.mu n c st with
   |none=>rw[hx]at h;cases h
   |some x=>
    obtain⟨x,s'⟩:=x
    rw[hx]at h
    refine⟨n+1,x,s',exec_mono (CallLe.refl _) (Nat.le_succ n) hx,?_⟩
    cases x with
    |normal=>cases h;exact q
    |ret=>cases h;exact q
    |goto l=>cases h;exact q
    |exit i=>
     dsimp only at h
     unfold bk
     dsimp only
     by_cases hi:i=id
     ·rw[if_pos hi]at h ⊢;cases h;exact q
     ·rw[if_neg hi]at h ⊢;cases h;exact q
 ·rintro⟨n,e,s,h,q⟩
  cases e with
  |normal=>
   refine⟨n+1,_,s,?_,q⟩
   unfold exec
   dsimp only
   rw[exec_up h (by omega) (by omega)]
  |ret=>
   refine⟨n+1,_,s,?_,q⟩
   unfold exec
   dsimp only
   rw[exec_up h (by omega) (by omega)]
  |goto l=>
   refine⟨n+1,_,s,?_,q⟩
   unfold exec
   dsimp only
   rw[exec_up h (by omega) (by omega)]
  |exit i=>
   unfold bk at q
   dsimp only at q
   by_cases hi:i=id
   ·rw[if_pos hi]at q
    refine⟨n+1,.normal,s,?_,q⟩
    unfold exec
    dsimp only
    rw[exec_up h (by omega) (by omega)]
    simp[hi]
   ·rw[if_neg hi]at q
    refine⟨n+1,.exit i,s,?_,q⟩
    unfold exec
    dsimp only
    rw[exec_up h (by omega) (by omega)]
    simp[hi]
theorem wj_of {c b:Code} (h:WP C b st (SC C c R)):WJ C c b st R:=by
 obtain⟨n,e,s,h,q⟩:=h
 cases e with
 |goto l=>
  unfold SC at q
  dsimp only at q
  split at q
  ·rename_i rest hl
   obtain⟨m,e',s',h',q'⟩:=q
   refine⟨max n m+1,e',s',?_,q'⟩
   rw[exec_up h (show n<=max n m+1 by omega) (show n<=max n m+1 by omega)]
   unfold jumps
   dsimp only
   rw[hl]
   dsimp only
   have:=jumps_mono (f:=exec C.P (callN C.P C.X C.mu C.good m) C.mu m) (g:=exec C.P (callN C.P C.X C.mu C.good (max n m+1)) C.mu (max n m+1)) (fun k s r hr=>exec_up hr (by omega) (by omega)) (show m<=max n m by omega) h'
   cases e1:exec C.P (callN C.P C.X C.mu C.good m) C.mu m rest s with
   |none=>rw[e1]at h';cases m<;>simp[jumps]at h'
   |some y=>rw[exec_up e1 (by omega) (by omega)];rw[e1]at this;exact this
  ·rename_i hl
   refine⟨n+1,.goto l,s,?_,q⟩
   rw[exec_up h (Nat.le_succ n) (Nat.le_succ n)]
   unfold jumps
   dsimp only
   rw[hl]
 |normal=>exact⟨n+1,.normal,s,by rw[exec_up h (Nat.le_succ n) (Nat.le_succ n)];rfl,q⟩
 |exit i=>exact⟨n+1,.exit i,s,by rw[exec_up h (Nat.le_succ n) (Nat.le_succ n)];rfl,q⟩
 |ret=>exact⟨n+1,.ret,s,by rw[exec_up h (Nat.le_succ n) (Nat.le_succ n)];rfl,q⟩
theorem of_wj {c b:Code} (h:WJ C c b st R):WP C b st (SC C c R):=by
 obtain⟨n,e,s,h,q⟩:=h
 cases n with
 |zero=>simp[jumps]at h
 |succ n=>
  cases e1:exec C.P (callN C.P C.X C.mu C.good (n+1)) C.mu (n+1) b st with
  |none=>rw[e1]at h;simp[jumps]at h
  |some y=>
   obtain⟨x,s'⟩:=y
   rw[e1]at h
   refine⟨n+1,x,s',e1,?_⟩
   unfold jumps at h
   cases x with
   |goto l=>
    show (match findLabel c l with|some rest=>WJ C c rest s' R|none=>R (.goto l) s')
    dsimp only at h
    cases hl:findLabel c l with
    |some rest=>
     rw[hl]at h
     exact⟨n+1,e,s,jumps_mono (fun k s r hr=>hr) (Nat.le_succ n) h,q⟩
    |none=>
     rw[hl]at h
     cases h
     exact q
   |normal=>cases h;exact q
   |exit i=>cases h;exact q
   |ret=>cases h;exact q
theorem vp_scope {c:Code}:WP C (.scope c) st R=WP C c st (SC C c R):=by
 apply propext
 constructor
 ·rintro⟨n,e,s,h,q⟩
  cases n with
  |zero=>simp[exec]at h
  |succ n=>
   have h:jumps (exec C.P (callN C.P C.X C.mu C.good (n+1)) C.mu n) c n (exec C.P (callN C.P C.X C.mu C.good (n+1)) C.mu n c st)=some (e,s):=h
   refine of_wj ⟨n+1,e,s,?_,q⟩
   cases e1:exec C.P (callN C.P C.X C.mu C.good (n+1)) C.mu n c st with
   |none=>rw[e1]at h;cases n<;>simp[jumps]at h
   |some y=>
    rw[e1]at h
    rw[exec_mono (CallLe.refl _) (Nat.le_succ n) e1]
    exact jumps_mono (fun k s r hr=>exec_mono (CallLe.refl _) (Nat.le_succ n) hr) (Nat.le_succ n) h
 ·intro h
  obtain⟨n,e,s,h,q⟩:=wj_of h
  refine⟨n+1,e,s,?_,q⟩
  show jumps (exec C.P (callN C.P C.X C.mu C.good (n+1)) C.mu n) c n (exec C.P (callN C.P C.X C.mu C.good (n+1)) C.mu n c st)=some (e,s)
  exact jumps_mono (fun k s r hr=>exec_up (k:=n) hr (Nat.le_succ n) (Nat.le_refl n)) (Nat.le_refl n) (by
   cases e1:exec C.P (callN C.P C.X C.mu C.good n) C.mu n c st with
   |none=>rw[e1]at h;cases n<;>simp[jumps]at h
   |some y=>rw[e1]at h;rw[exec_up (k:=n) e1 (Nat.le_succ n) (Nat.le_refl n)];exact h)
theorem sc_goto {c rest:Code} {l:Nat} (hl:findLabel c l=some rest) (k:WP C rest st (SC C c R)):SC C c R (.goto l) st:=by
 show (match findLabel c l with|some rest=>WJ C c rest st R|none=>R (.goto l) st)
 rw[hl]
 exact wj_of k
theorem vp_ind {c:Code} (I:St->Prop) (μ:St->Nat) (h0:I st) (step : ∀s,I s->(∀s',I s'->μ s'<μ s->WP C c s' R)->WP C c s R):WP C c st R:=by
 have key : ∀n s,μ s=n->I s->WP C c s R:=by
  intro n
  induction n using Nat.strongRecOn with
  |_ n ih=>
   intro s hn hI
   exact step s hI fun s' hI' hlt=>ih (μ s') (hn▸hlt) s' rfl hI'
 exact key _ st rfl h0
theorem vp_label {l:Nat}:WP C (.label l) st R=R .normal st:=
 propext ⟨fun ⟨n,e,s,h,q⟩=>by
  cases n with
  |zero=>simp[exec]at h
  |succ n=>simp only[exec,Option.some.injEq,Prod.mk.injEq]at h;obtain⟨rfl,rfl⟩:=h;exact q,fun q=>⟨1,_,st,rfl,q⟩⟩
theorem vp_goto {l:Nat}:WP C (.goto l) st R=R (.goto l) st:=
 propext ⟨fun ⟨n,e,s,h,q⟩=>by
  cases n with
  |zero=>simp[exec]at h
  |succ n=>simp only[exec,Option.some.injEq,Prod.mk.injEq]at h;obtain⟨rfl,rfl⟩:=h;exact q,fun q=>⟨1,_,st,rfl,q⟩⟩
theorem sc_normal {c:Code}:SC C c R .normal st=R .normal st:=_root_.id rfl
theorem sc_ret {c:Code}:SC C c R .ret st=R .ret st:=_root_.id rfl
theorem sc_exit {c:Code} {i:Nat}:SC C c R (.exit i) st=R (.exit i) st:=_root_.id rfl
theorem nx_goto {b:Code} {l:Nat}:nx C b R (.goto l) st=R (.goto l) st:=_root_.id rfl
theorem bk_goto {id l:Nat}:bk id R (.goto l) st=R (.goto l) st:=_root_.id rfl
theorem vp_loop {c:Code}:WP C (.loop c) st R=WP C c st (nx C (.loop c) R):=by
 apply propext
 constructor
 ·rintro⟨n,e,s,h,q⟩
  cases n with
  |zero=>simp[exec]at h
  |succ n=>
   unfold exec at h
   dsimp only at h
   cases hx:exec C.P (callN C.P C.X C.mu C.good (n+1)) C.mu n c st with
   |none=>rw[hx]at h;cases h
   |some x=>
    obtain⟨x,s'⟩:=x
    rw[hx]at h
    refine⟨n+1,x,s',exec_mono (CallLe.refl _) (Nat.le_succ n) hx,?_⟩
    cases x with
    |normal=>exact⟨n+1,e,s,exec_mono (CallLe.refl _) (Nat.le_succ n) h,q⟩
    |exit i=>cases h;exact q
    |ret=>cases h;exact q
    |goto l=>cases h;exact q
 ·rintro⟨n,e,s,h,q⟩
  cases e with
  |normal=>
   obtain⟨m,e',s',h',q'⟩:=q
   refine⟨max n m+1,e',s',?_,q'⟩
   unfold exec
   dsimp only
   rw[exec_up h (by omega) (by omega)]
   exact exec_up h' (by omega) (by omega)
  |exit i=>
   refine⟨n+1,_,s,?_,q⟩
   unfold exec
   dsimp only
   rw[exec_up h (by omega) (by omega)]
  |ret=>
   refine⟨n+1,_,s,?_,q⟩
   unfold exec
   dsimp only
   rw[exec_up h (by omega) (by omega)]
  |goto l=>
   refine⟨n+1,_,s,?_,q⟩
   unfold exec
   dsimp only
   rw[exec_up h (by omega) (by omega)]
theorem vp_loop_inv {c:Code} (I:St->Prop) (μ:St->Nat) (h0:I st)
  (round : ∀s,I s->WP C c s (fun e s'=>match e with | .normal=>I s'/\μ s'<μ s|e=>R e s')):WP C (.loop c) st R:=by
 have key : ∀n s,μ s=n->I s->WP C (.loop c) s R:=by
  intro n
  induction n using Nat.strongRecOn with
  |_ n ih=>
   intro s hn hI
   rw[vp_loop]
   obtain⟨k,e,s',h,q⟩:=round s hI
   refine⟨k,e,s',h,?_⟩
   cases e with
   |normal=>exact ih (μ s') (hn▸q.2) s' rfl q.1
   |exit i=>exact q
   |ret=>exact q
   |goto l=>exact q
 exact key _ st rfl h0
theorem vp_mono {c:Code} {R':Ex->St->Prop} (h:WP C c st R) (k : ∀e s,R e s->R' e s):WP C c st R':=by
 obtain⟨n,e,s,h,q⟩:=h
 exact⟨n,e,s,h,k _ _ q⟩
theorem vp_exit {id:Nat}:WP C (.exit id) st R=R (.exit id) st:=
 propext ⟨fun ⟨n,e,s,h,q⟩=>by
  cases n with
  |zero=>simp[exec]at h
  |succ n=>simp only[exec,Option.some.injEq,Prod.mk.injEq]at h;obtain⟨rfl,rfl⟩:=h;exact q,fun q=>⟨1,_,st,rfl,q⟩⟩
theorem vp_skip:WP C .skip st R=R .normal st:=
 propext ⟨fun ⟨n,e,s,h,q⟩=>by
  cases n with
  |zero=>simp[exec]at h
  |succ n=>simp only[exec,Option.some.injEq,Prod.mk.injEq]at h;obtain⟨rfl,rfl⟩:=h;exact q,fun q=>⟨1,_,st,rfl,q⟩⟩
theorem vp_ret:WP C .ret st R=R .ret st:=
 propext ⟨fun ⟨n,e,s,h,q⟩=>by
  cases n with
  |zero=>simp[exec]at h
  |succ n=>simp only[exec,Option.some.injEq,Prod.mk.injEq]at h;obtain⟨rfl,rfl⟩:=h;exact q,fun q=>⟨1,_,st,rfl,q⟩⟩
theorem vp_cond {x:Operand} {t e:Code}:WP C (.cond x t e) st R=WC C (st.eval x) t e st R:=by
 apply propext
 constructor
 ·rintro⟨n,e',s,h,q⟩
  cases n with
  |zero=>simp[exec]at h
  |succ n=>
   unfold exec at h
   dsimp only at h
   unfold WC
   split at h
   ·rename_i b hb
    rw[hb]
    exact⟨n+1,e',s,exec_mono (CallLe.refl _) (Nat.le_succ n) h,q⟩
   ·cases h
 ·intro h
  unfold WC at h
  split at h
  ·rename_i b hb
   obtain⟨n,e',s,h,q⟩:=h
   refine⟨n+1,e',s,?_,q⟩
   unfold exec
   dsimp only
   rw[hb]
   exact exec_up h (by omega) (by omega)
  ·exact h.elim
theorem nx_normal {b:Code}:nx C b R .normal st=WP C b st R:=_root_.id rfl
theorem nx_ret {b:Code}:nx C b R .ret st=R .ret st:=_root_.id rfl
theorem nx_exit {b:Code} {i:Nat}:nx C b R (.exit i) st=R (.exit i) st:=_root_.id rfl
theorem bk_normal {id:Nat}:bk id R .normal st=R .normal st:=_root_.id rfl
theorem bk_ret {id:Nat}:bk id R .ret st=R .ret st:=_root_.id rfl
theorem bk_exit {id i:Nat}:bk id R (.exit i) st=if i=id then R .normal st else R (.exit i) st:=_root_.id rfl
theorem vv_some {v:TV}:WV C soft ops l dst st Q (some v)=WO C soft ops l (st.putO dst v) Q:=_root_.id rfl
theorem vs_some:WS C soft ops l Q (some st)=WO C soft ops l st Q:=_root_.id rfl
theorem vc_true {t e:Code}:WC C (.sv (.bool true)) t e st R=WP C t st R:=_root_.id rfl
theorem vc_false {t e:Code}:WC C (.sv (.bool false)) t e st R=WP C e st R:=_root_.id rfl
theorem vc_cut {v:TV} {t e:Code} {Mid:St->Prop} (h:WC C v t e st (fun e s=>e = .normal/\Mid s)) (k : ∀s,Mid s->R .normal s):WC C v t e st R:=by
 unfold WC at h ⊢
 split at h
 ·obtain⟨n,e',s,h,rfl,q⟩:=h
  exact⟨n,_,s,h,k s q⟩
 ·exact h.elim
theorem va_some {args:List Operand} {vs:List TV} {g:FuncId} {caps ss:List SV}:WA C soft ops l dst args st Q vs (.sv (.fn g caps)) (some ss)=WF C soft ops l dst st Q g (ss++caps):=_root_.id rfl
theorem va_none {args:List Operand} {vs:List TV} {g:FuncId} {caps:List SV}:WA C false ops l dst args st Q vs (.sv (.fn g caps)) none =
  if C.mu g then if C.mu (INL+g) then WN C ops l dst st Q g (vs++caps.map TV.sv) else WI C ops l dst st Q g vs (distinct (impIds vs)) ((impArgs st vs).map (· ++ caps.map Arg.sv)) else WZ C ops l dst args Q g caps (frzAll st vs):=_root_.id rfl
theorem va_noneS {args:List Operand} {vs:List TV} {g:FuncId} {caps:List SV}:WA C true ops l dst args st Q vs (.sv (.fn g caps)) none=WQ ops (WNS C ops l dst st Q g (vs++caps.map TV.sv)) (if C.mu (INL+g) then WL C ops l dst st Q g (vs++caps.map TV.sv) else WR C ops l dst st Q g caps vs):=_root_.id rfl
theorem wns_congr {g:FuncId} {vs vs':List TV} (h:vs=vs'):WNS C ops l dst st Q g vs=WNS C ops l dst st Q g vs':=by rw[h]
theorem vr_congr {g:FuncId} {caps:List SV} {vs vs':List TV} (h1:vs=vs'):WR C ops l dst st Q g caps vs=WR C ops l dst st Q g caps vs':=by rw[h1]
theorem vz_some {args:List Operand} {g:FuncId} {caps:List SV}:WZ C ops l dst args Q g caps (some st)=WY C ops l dst st Q g caps (allSV (args.map st.eval)):=_root_.id rfl
theorem vy_some {g:FuncId} {caps ss:List SV}:WY C ops l dst st Q g caps (some ss)=WF C false ops l dst st Q g (ss++caps):=_root_.id rfl
theorem vf_of {g:FuncId} {ss:List SV} {r:SV} (h:Fn C g ss r) (k:WO C soft ops l (st.putO dst (.sv r)) Q):WF C soft ops l dst st Q g ss:=by
 obtain⟨n,e,hn⟩:=h
 exact⟨n,by rw[hn];exact k⟩
def FnI (C:Cx) (f:FuncId) (args:List Arg) (r:SV) (exps:List (Option (List SV))):Prop := ∃n,callN C.P C.X C.mu C.good n f args=some (.sv r,exps)
theorem vi_of {g:FuncId} {vs:List TV} {ars:List Arg} {r:SV} {exps:List (Option (List SV))} {st':St} (h:FnI C g ars r exps) (hx:expAll st vs (exps.take vs.length)=some st') (k:WO C false ops l (st'.putO dst (.sv r)) Q) :
  WI C ops l dst st Q g vs true (some ars):=by
 obtain⟨n,hn⟩:=h
 exact⟨rfl,n,r,exps,st',hn,hx,k⟩
def RW (C:Cx) (ops:Array Oper) (l:List Oper) (dst:Option Nat) (s:St) (Q:St->Prop) (o:Option TV):Prop:=match o with
 |some t=>WO C false ops l (s.leave.putO dst t) Q
 |none=>False
def RF (C:Cx) (ops:Array Oper) (l:List Oper) (dst:Option Nat) (rs:List ResultVar) (Q:St->Prop):Option St->Prop
 |some s=>RW C ops l dst s Q (retI C.P s rs)
 |none=>False
def RN (C:Cx) (ops:Array Oper) (l:List Oper) (dst:Option Nat) (rs:List ResultVar) (Q:St->Prop) (e:Ex) (s:St):Prop:=match e with
 | .ret=>RF C ops l dst rs Q (frzR C.P s rs)
 |_=>False
theorem rn_ret {rs:List ResultVar}:RN C ops l dst rs Q .ret st=RF C ops l dst rs Q (frzR C.P st rs):=_root_.id rfl
theorem rf_some {rs:List ResultVar}:RF C ops l dst rs Q (some st)=RW C ops l dst st Q (retI C.P st rs):=_root_.id rfl
theorem rf_congr {rs:List ResultVar} {o o':Option St} (h:o=o'):RF C ops l dst rs Q o=RF C ops l dst rs Q o':=by rw[h]
theorem frzR_one {P:Program} {r:ResultVar}:frzR P st [r]=some st:=_root_.id rfl
theorem frzR_nil {P:Program}:frzR P st []=some st:=_root_.id rfl
theorem frzR_two {P:Program} {a b:ResultVar} {rs:List ResultVar}:frzR P st (a::b::rs)=frzAll st ((resTs P st (a::b::rs)).filter ownRef):=_root_.id rfl
theorem rw_some {t:TV}:RW C ops l dst st Q (some t)=WO C false ops l (st.leave.putO dst t) Q:=_root_.id rfl
theorem rw_congr {o o':Option TV} (h:o=o'):RW C ops l dst st Q o=RW C ops l dst st Q o':=by rw[h]
theorem wn_of {g:FuncId} {fn:Func} {body:Code} {vs:List TV} (hf:C.P.funcs[g]?=some fn) (hok:C.good g=true) (hb:fn.body=some body) (hl:vs.length<=fn.ntmps)
  (h:WP C body (st.enter vs) (RN C ops l dst fn.results.toList Q)) (hX:C.X g [.st false st vs]=none:=by rfl):WN C ops l dst st Q g vs:=by
 obtain⟨n,e,s,he,hq⟩:=h
 cases e with
 |ret=>
  have hq:RF C ops l dst fn.results.toList Q (frzR C.P s fn.results.toList):=hq
  cases hz:frzR C.P s fn.results.toList with
  |none=>rw[hz]at hq;exact hq.elim
  |some s1=>
   rw[hz]at hq
   have hq:RW C ops l dst s1 Q (retI C.P s1 fn.results.toList):=hq
   cases hr:retI C.P s1 fn.results.toList with
   |none=>rw[hr]at hq;exact hq.elim
   |some t=>
    rw[hr]at hq
    refine⟨n+1,s1.leave,t,[],?_,hq⟩
    unfold callN
    simp only[stq,hX,hf,hok,hb,if_true]
    rw[if_pos ⟨hl,fun h=>by cases h⟩,he]
    unfold inlOf
    simp only[hz,hr,Bool.false_eq_true,if_false]
 |_=>exact hq.elim
def RL (P:Program) (rs:List ResultVar) (r:SV) (e:Ex) (st:St):Prop:=match e with
 | .ret=>retI P st rs=some (.sv r)
 |_=>False
theorem rl_ret {P:Program} {rs:List ResultVar} {r:SV}:RL P rs r .ret st=(retI P st rs=some (.sv r)):=_root_.id rfl
def FnH (C:Cx) (f:FuncId) (args:List SV) (ts:List TV):Prop := ∃n e,callN C.P C.X C.mu C.good n f (args.map Arg.sv)=some (.heap ts,e)
theorem vf_heap {g:FuncId} {ss:List SV} {ts:List TV} (h:FnH C g ss ts) (k:WO C false ops l (st.newH d ts) Q):WF C false ops l (some d) st Q g ss:=by
 obtain⟨n,e,hn⟩:=h
 refine⟨n,?_⟩
 rw[hn]
 exact k
theorem wn_by {g:FuncId} {vs:List TV} {st':St} {r:TV} {e:List (Option (List SV))} (hX:C.X g [.st false st vs]=some (.st st' r,e)) (k:WO C false ops l (st'.putO dst r) Q):WN C ops l dst st Q g vs:=by
 refine⟨1,st',r,e,?_,k⟩
 unfold callN
 simp only[stq,hX]
def RZ (P:Program) (rs:List ResultVar) (T:St->TV->Prop) (e:Ex) (s:St):Prop:=match e with
 | .ret=>(match frzR P s rs with
  |some s1=>(match retI P s1 rs with
   |some t=>T s1.leave t
   |none=>False)
  |none=>False)
 |_=>False
theorem frzR_ref {P:Program} {rs:List ResultVar} {d g size off n:Nat} (h:retI P st rs=some (.ref d g size off n)):frzR P st rs=some st:=by
 unfold retI at h
 split at h
 ·rfl
 ·obtain⟨l,_,e⟩:=Option.map_eq_some_iff.1 h
  cases e
theorem rz_ret {P:Program} {rs:List ResultVar} {T:St->TV->Prop} {t:TV} (h:retI P st rs=some t) (k:T st.leave t) (h1:frzR P st rs=some st:=by rfl):RZ P rs T .ret st:=by
 show (match frzR P st rs with
  |some s1=>(match retI P s1 rs with
   |some t=>T s1.leave t
   |none=>False)
  |none=>False)
 rw[h1]
 dsimp only
 rw[h]
 exact k
theorem call_rz {g:FuncId} {fn:Func} {body:Code} {vs:List TV} {T:St->TV->Prop} (hf:C.P.funcs[g]?=some fn) (hok:C.good g=true) (hb:fn.body=some body) (hl:vs.length<=fn.ntmps)
  (h:WP C body (st.enter vs) (RZ C.P fn.results.toList T)) (hX:C.X g [.st false st vs]=none:=by rfl) : ∃n st' t,callN C.P C.X C.mu C.good n g [.st false st vs]=some (.st st' t,[])/\T st' t:=by
 obtain⟨n,e,s,he,hq⟩:=h
 cases e with
 |ret=>
  have hq:(match frzR C.P s fn.results.toList with
   |some s1=>(match retI C.P s1 fn.results.toList with
    |some t=>T s1.leave t
    |none=>False)
   |none=>False):=hq
  cases hz:frzR C.P s fn.results.toList with
  |none=>rw[hz]at hq;exact hq.elim
  |some s1=>
   rw[hz]at hq
   dsimp only at hq
   cases hr:retI C.P s1 fn.results.toList with
   |none=>rw[hr]at hq;exact hq.elim
   |some t=>
    rw[hr]at hq
    refine⟨n+1,s1.leave,t,?_,hq⟩
    unfold callN
    simp only[stq,hX,hf,hok,hb,if_true]
    rw[if_pos ⟨hl,fun h=>by cases h⟩,he]
    unfold inlOf
    simp only[hz,hr,Bool.false_eq_true,if_false]
 |_=>exact hq.elim
theorem wn_congr {g:FuncId} {vs vs':List TV} (h:vs=vs'):WN C ops l dst st Q g vs=WN C ops l dst st Q g vs':=by rw[h]
theorem wl_congr {g:FuncId} {vs vs':List TV} (h:vs=vs'):WL C ops l dst st Q g vs=WL C ops l dst st Q g vs':=by rw[h]
theorem vo_congr {st':St} (h:st=st'):WO C soft ops l st Q=WO C soft ops l st' Q:=by rw[h]
theorem vp_congr {c:Code} {st':St} (h:st=st'):WP C c st R=WP C c st' R:=by rw[h]
theorem vb_some {t:TypeId} {ps:Array (Nat×Operand)} {v:TV}:WB C soft ops l dst t ps st Q (some v)=WO C soft ops l (st.putO dst v) Q:=_root_.id rfl
theorem vb_none {t:TypeId} {ps:Array (Nat×Operand)}:WB C false ops l dst t ps st Q none=WB2 C ops l dst t ps Q (frzAll st (ps.toList.map fun p=>st.eval p.2)):=_root_.id rfl
theorem vb2_some {t:TypeId} {ps:Array (Nat×Operand)}:WB2 C ops l dst t ps Q (some st)=WV C false ops l dst st Q (val C.P st (.build t ps)):=_root_.id rfl
theorem vb_congr {t:TypeId} {ps:Array (Nat×Operand)} {v v':Option TV} (h:v=v'):WB C soft ops l dst t ps st Q v=WB C soft ops l dst t ps st Q v':=by rw[h]
theorem vb2_congr {t:TypeId} {ps:Array (Nat×Operand)} {s s':Option St} (h:s=s'):WB2 C ops l dst t ps Q s=WB2 C ops l dst t ps Q s':=by rw[h]
theorem vt_some {t t':TypeId} {x:Operand} {v:TV}:WT C soft ops l dst t t' x st Q (some v)=WO C soft ops l (st.putO dst v) Q:=_root_.id rfl
theorem vt_none {t t':TypeId} {x:Operand}:WT C false ops l dst t t' x st Q none=WT2 C ops l dst t t' x Q (frzAll st [st.eval x]):=_root_.id rfl
theorem vt2_some {t t':TypeId} {x:Operand}:WT2 C ops l dst t t' x Q (some st)=WV C false ops l dst st Q (val C.P st (.convert t t' x)):=_root_.id rfl
theorem vt_congr {t t':TypeId} {x:Operand} {v v':Option TV} (h:v=v'):WT C soft ops l dst t t' x st Q v=WT C soft ops l dst t t' x st Q v':=by rw[h]
theorem vt2_congr {t t':TypeId} {x:Operand} {s s':Option St} (h:s=s'):WT2 C ops l dst t t' x Q s=WT2 C ops l dst t t' x Q s':=by rw[h]
theorem vm_some {f:Go.Fn} {ps fs:Array Operand} {v:TV}:WM C soft ops l dst f fs ps st Q (some v)=WO C soft ops l (st.putO dst v) Q:=_root_.id rfl
theorem vm_none {f:Go.Fn} {ps fs:Array Operand}:WM C false ops l dst f fs ps st Q none=WM2 C ops l dst f fs ps Q (frzAll st (ps.toList.map st.eval)):=_root_.id rfl
theorem vm2_some {f:Go.Fn} {ps fs:Array Operand}:WM2 C ops l dst f fs ps Q (some st)=WV C false ops l dst st Q (val C.P st (.makeFunc f fs ps)):=_root_.id rfl
theorem vm_congr {f:Go.Fn} {ps fs:Array Operand} {v v':Option TV} (h:v=v'):WM C soft ops l dst f fs ps st Q v=WM C soft ops l dst f fs ps st Q v':=by rw[h]
theorem vm2_congr {f:Go.Fn} {ps fs:Array Operand} {s s':Option St} (h:s=s'):WM2 C ops l dst f fs ps Q s=WM2 C ops l dst f fs ps Q s':=by rw[h]
theorem vv_congr {v v':Option TV} (h:v=v'):WV C soft ops l dst st Q v=WV C soft ops l dst st Q v':=by rw[h]
theorem vs_congr {s s':Option St} (h:s=s'):WS C soft ops l Q s=WS C soft ops l Q s':=by rw[h]
theorem wk_congr {k k':Bool} {s s':Option St} (h:k=k') (h':s=s'):WK C soft ops l Q k s=WK C soft ops l Q k' s':=by rw[h,h']
theorem va_congr {args:List Operand} {vs vs':List TV} {g g':TV} {ss ss':Option (List SV)} (hv:vs=vs') (h:g=g') (h':ss=ss') :
  WA C soft ops l dst args st Q vs g ss=WA C soft ops l dst args st Q vs' g' ss':=by rw[hv,h,h']
theorem vz_congr {args:List Operand} {g:FuncId} {caps:List SV} {s s':Option St} (h:s=s'):WZ C ops l dst args Q g caps s=WZ C ops l dst args Q g caps s':=by rw[h]
theorem vy_congr {g:FuncId} {caps:List SV} {ss ss':Option (List SV)} {st':St} (h':st=st') (h:ss=ss'):WY C ops l dst st Q g caps ss=WY C ops l dst st' Q g caps ss':=by rw[h,h']
theorem vi_congr {g:FuncId} {vs vs':List TV} {di di':Bool} {ars as':Option (List Arg)} (h1:vs=vs') (h2:di=di') (h3:ars=as'):WI C ops l dst st Q g vs di ars=WI C ops l dst st Q g vs' di' as':=by rw[h1,h2,h3]
theorem vf_congr {g:FuncId} {ss ss':List SV} (h:ss=ss'):WF C soft ops l dst st Q g ss=WF C soft ops l dst st Q g ss':=by rw[h]
theorem vc_congr {v v':TV} {t e:Code} (h:v=v'):WC C v t e st R=WC C v' t e st R:=by rw[h]
theorem putO_some {v:TV}:st.putO (some d) v=st.put d v:=_root_.id rfl
theorem putO_none {v:TV}:st.putO none v=st:=_root_.id rfl
theorem eval_tmp {t:Nat}:st.eval (.tmp t)=st.tmp t:=_root_.id rfl
theorem eval_const {v:Value}:st.eval (.const v)=cst v:=_root_.id rfl
theorem eval_func {f:FuncId}:st.eval (.func f) = .sv (.fn f []):=_root_.id rfl
theorem tmp_put {t:Nat} {v:TV}:(st.put d v).tmp t=if t=d then v else st.tmp t:=_root_.id rfl
theorem obj_put {v:TV}:(st.put d v).obj=st.obj:=_root_.id rfl
theorem gen_put {v:TV}:(st.put d v).gen=st.gen:=_root_.id rfl
theorem hob_put {v:TV}:(st.put d v).hob=st.hob:=_root_.id rfl
theorem up_put {v:TV}:(st.put d v).up=st.up:=_root_.id rfl
theorem hob_new {cs:List SV} {v:TV}:(st.new d cs v).hob=st.hob:=_root_.id rfl
theorem up_new {cs:List SV} {v:TV}:(st.new d cs v).up=st.up:=_root_.id rfl
theorem hob_set {g:Nat} {cs:List SV}:(st.set d g cs).hob=st.hob:=_root_.id rfl
theorem up_set {g:Nat} {cs:List SV}:(st.set d g cs).up=st.up:=_root_.id rfl
theorem hob_frzd {g d' g':Nat} {cs:List SV}:(st.frzd d g cs).hob d' g'=(st.hob d' g').map (fun ts=>ts.map (fun t=>t.frz d g cs)):=_root_.id rfl
theorem up_frzd {g t:Nat} {cs:List SV}:(st.frzd d g cs).up t=(st.up t).frz d g cs:=_root_.id rfl
theorem hob_grow {d' g' size n m d1 g1:Nat} {cs:List SV}:(st.grow d d' g' size n m cs).hob d1 g1=(st.hob d1 g1).map (fun ts=>ts.map (fun t=>t.kill d' g')):=_root_.id rfl
theorem up_grow {d' g' size n m t:Nat} {cs:List SV}:(st.grow d d' g' size n m cs).up t=(st.up t).kill d' g':=_root_.id rfl
theorem tmp_newH {ts:List TV} {t:Nat}:(st.newH d ts).tmp t=if t=d then .ptr (H0+d) (st.gen (H0+d)) 0 else st.tmp t:=_root_.id rfl
theorem obj_newH {ts:List TV} {d' g':Nat}:(st.newH d ts).obj d' g'=if d'=H0+d/\g'=st.gen (H0+d) then some [] else st.obj d' g':=_root_.id rfl
theorem hob_newH {ts:List TV} {d' g':Nat}:(st.newH d ts).hob d' g'=if d'=H0+d/\g'=st.gen (H0+d) then some ts else st.hob d' g':=_root_.id rfl
theorem gen_newH {ts:List TV} {d':Nat}:(st.newH d ts).gen d'=if d'=H0+d then st.gen (H0+d)+1 else st.gen d':=_root_.id rfl
theorem up_newH {ts:List TV}:(st.newH d ts).up=st.up:=_root_.id rfl
theorem tmp_setH {g:Nat} {ts:List TV}:(st.setH d g ts).tmp=st.tmp:=_root_.id rfl
theorem obj_setH {g:Nat} {ts:List TV}:(st.setH d g ts).obj=st.obj:=_root_.id rfl
theorem gen_setH {g:Nat} {ts:List TV}:(st.setH d g ts).gen=st.gen:=_root_.id rfl
theorem up_setH {g:Nat} {ts:List TV}:(st.setH d g ts).up=st.up:=_root_.id rfl
theorem hob_setH {g d' g':Nat} {ts:List TV}:(st.setH d g ts).hob d' g'=if d'=d/\g'=g then some ts else st.hob d' g':=_root_.id rfl
theorem tmp_enter {vs:List TV} {t:Nat}:(st.enter vs).tmp t=optT vs[t]?:=_root_.id rfl
theorem optT_some {v:TV}:optT (some v)=v:=_root_.id rfl
theorem optT_none:optT none = .undef:=_root_.id rfl
theorem hget_some {ts:List TV} {i:Nat}:hget (some ts) i=ts[i]?:=_root_.id rfl
theorem obj_enter {vs:List TV}:(st.enter vs).obj=st.obj:=_root_.id rfl
theorem gen_enter {vs:List TV}:(st.enter vs).gen=st.gen:=_root_.id rfl
theorem hob_enter {vs:List TV}:(st.enter vs).hob=st.hob:=_root_.id rfl
theorem up_enter {vs:List TV} {t:Nat}:(st.enter vs).up t=if t%2=0 then st.tmp (t/2) else st.up (t/2):=_root_.id rfl
theorem tmp_leave {t:Nat}:st.leave.tmp t=st.up (2*t):=_root_.id rfl
theorem up_leave {t:Nat}:st.leave.up t=st.up (2*t+1):=_root_.id rfl
theorem obj_leave:st.leave.obj=st.obj:=_root_.id rfl
theorem gen_leave:st.leave.gen=st.gen:=_root_.id rfl
theorem hob_leave:st.leave.hob=st.hob:=_root_.id rfl
theorem slotC_nil:slotC (.con (.slice none 0 0))=some .nil:=_root_.id rfl
theorem slotC_int {k:IntKind} {n:Int}:slotC (.int k n)=some (.sv (.int k n)):=_root_.id rfl
theorem slotC_sl {n:Nat} {cs:List SV}:slotC (.sl n cs)=some (.sv (.sl n cs)):=_root_.id rfl
theorem tmp_new {cs:List SV} {v:TV} {t:Nat}:(st.new d cs v).tmp t=if t=d then v else st.tmp t:=_root_.id rfl
theorem obj_new {cs:List SV} {v:TV} {d' g':Nat}:(st.new d cs v).obj d' g'=if d'=d/\g'=st.gen d then some cs else st.obj d' g':=_root_.id rfl
theorem gen_new {cs:List SV} {v:TV} {d':Nat}:(st.new d cs v).gen d'=if d'=d then st.gen d+1 else st.gen d':=_root_.id rfl
theorem tmp_set {g:Nat} {cs:List SV}:(st.set d g cs).tmp=st.tmp:=_root_.id rfl
theorem obj_set {g:Nat} {cs:List SV} {d' g':Nat}:(st.set d g cs).obj d' g'=if d'=d/\g'=g then some cs else st.obj d' g':=_root_.id rfl
theorem tmp_frzd {g:Nat} {cs:List SV} {t:Nat}:(st.frzd d g cs).tmp t=(st.tmp t).frz d g cs:=_root_.id rfl
theorem obj_frzd {g:Nat} {cs:List SV} {d' g':Nat}:(st.frzd d g cs).obj d' g'=if d'=d/\g'=g then none else st.obj d' g':=_root_.id rfl
theorem gen_frzd {g:Nat} {cs:List SV}:(st.frzd d g cs).gen=st.gen:=_root_.id rfl
theorem frz_eq {g:Nat}:st.frz d g=if 1000000<=d then none else match st.obj d g with
  |some cs=>some (st.frzd d g cs)
  |none=>none:=_root_.id rfl
theorem tmp_grow {d' g' size n m:Nat} {cs:List SV} {t:Nat}:(st.grow d d' g' size n m cs).tmp t=if t=d then .ref d' g' size 0 (n+m) else (st.tmp t).kill d' g':=_root_.id rfl
theorem obj_grow {d' g' size n m:Nat} {cs:List SV} {d1 g1:Nat}:(st.grow d d' g' size n m cs).obj d1 g1=if d1=d'/\g1=g' then some cs else st.obj d1 g1:=_root_.id rfl
theorem gen_grow {d' g' size n m:Nat} {cs:List SV}:(st.grow d d' g' size n m cs).gen=st.gen:=_root_.id rfl
theorem gen_set {g:Nat} {cs:List SV}:(st.set d g cs).gen=st.gen:=_root_.id rfl
end
end Go.Ev
namespace Go.Ev
def wth:List Nat->Nat
 | []=>0
 |x::r=>x+4294967296*wth r
def okL (xs:List Nat):Prop := ∀x∈xs,x<4294967296
def limF:Nat->Nat->List Nat
 |0,_=>[]
 |f+1,n=>if n=0 then [] else n%4294967296::limF f (n/4294967296)
def lim (n:Nat):List Nat:=limF (n.log2/32+1) n
def trimL (xs:List Nat):Prop:=xs=[] \/ ∃ys z,xs=ys++[z]/\z≠0
theorem okL_nil:okL []:=fun x h=>by simp at h
theorem okL_cons {x:Nat} {xs:List Nat}:okL (x::xs)↔x<4294967296/\okL xs:=by simp[okL]
theorem okL_append {xs ys:List Nat}:okL (xs++ys)↔okL xs/\okL ys:=by
 simp only[okL,List.mem_append]
 exact⟨fun h=>⟨fun x hx=>h x (.inl hx),fun x hx=>h x (.inr hx)⟩,fun h x hx=>hx.elim (h.1 x) (h.2 x)⟩
theorem okL_take {xs:List Nat} (h:okL xs) (n:Nat):okL (xs.take n):=fun x hx=>h x (List.mem_of_mem_take hx)
theorem okL_drop {xs:List Nat} (h:okL xs) (n:Nat):okL (xs.drop n):=fun x hx=>h x (List.mem_of_mem_drop hx)
theorem okL_get {xs:List Nat} (h:okL xs) {i:Nat} (hi:i<xs.length):xs[i]<4294967296:=h _ (List.getElem_mem hi)
theorem okL_replicate (n:Nat):okL (List.replicate n 0):=fun x hx=>by rw[List.eq_of_mem_replicate hx];omega
theorem okL_set {xs:List Nat} (h:okL xs) (i x:Nat) (hx:x<4294967296):okL (xs.set i x):=fun y hy=>by
 rcases List.mem_or_eq_of_mem_set hy with h1|h1
 ·exact h y h1
 ·omega
theorem wth_nil:wth []=0:=rfl
theorem wth_cons (x:Nat) (xs:List Nat):wth (x::xs)=x+4294967296*wth xs:=rfl
theorem wth_append (xs ys:List Nat):wth (xs++ys)=wth xs+4294967296^xs.length*wth ys:=by
 induction xs with
 |nil=>simp[wth]
 |cons x xs ih=>
  simp only[List.cons_append,wth_cons,ih,List.length_cons,Nat.pow_succ]
  rw[Nat.mul_add,Nat.add_assoc,Nat.mul_comm (4294967296^xs.length) 4294967296,Nat.mul_assoc]
theorem wth_lt {xs:List Nat} (h:okL xs):wth xs<4294967296^xs.length:=by
 induction xs with
 |nil=>simp[wth]
 |cons x xs ih=>
  obtain⟨h1,h2⟩:=okL_cons.1 h
  have:=ih h2
  simp only[wth_cons,List.length_cons,Nat.pow_succ]
  omega
theorem wth_replicate (n:Nat):wth (List.replicate n 0)=0:=by
 induction n with
 |zero=>rfl
 |succ n ih=>simp[List.replicate_succ,wth_cons,ih]
theorem wth_snoc0 (xs:List Nat):wth (xs++[0])=wth xs:=by simp[wth_append,wth]
theorem wth_inj : ∀ {xs ys:List Nat},okL xs->okL ys->xs.length=ys.length->wth xs=wth ys->xs=ys:=by
 intro xs
 induction xs with
 |nil=>intro ys _ _ h _;cases ys with
  |nil=>rfl
  |cons y ys=>simp at h
 |cons x xs ih=>
  intro ys hx hy h e
  cases ys with
  |nil=>simp at h
  |cons y ys=>
   obtain⟨h1,h2⟩:=okL_cons.1 hx
   obtain⟨h3,h4⟩:=okL_cons.1 hy
   simp only[wth_cons]at e
   have e1:x=y:=by omega
   have e2:wth xs=wth ys:=by omega
   rw[e1,ih h2 h4 (by simpa using h) e2]
theorem trimL_nil:trimL [] := .inl rfl
theorem trimL_pos : ∀ {xs:List Nat},trimL xs->xs≠[]->4294967296^(xs.length-1)<=wth xs:=by
 intro xs h hne
 rcases h with h|⟨ys,z,rfl,hz⟩
 ·exact(hne h).elim
 ·rw[wth_append]
  simp only[List.length_append,List.length_cons,List.length_nil,Nat.zero_add,Nat.add_sub_cancel,wth,Nat.mul_zero,Nat.add_zero]
  have:4294967296^ys.length*1<=4294967296^ys.length*z:=Nat.mul_le_mul_left _ (by omega)
  omega
theorem limF_spec : ∀ (f n:Nat),n<4294967296^f->wth (limF f n)=n/\okL (limF f n)/\trimL (limF f n):=by
 intro f
 induction f with
 |zero=>intro n h;simp at h;subst h;exact⟨rfl,okL_nil,trimL_nil⟩
 |succ f ih=>
  intro n h
  unfold limF
  split
  ·rename_i h0;subst h0;exact⟨rfl,okL_nil,trimL_nil⟩
  ·have hlt:n/4294967296<4294967296^f:=by
    rw[Nat.div_lt_iff_lt_mul (by omega)]
    rw[Nat.pow_succ]at h
    exact h
   obtain⟨h1,h2,h3⟩:=ih _ hlt
   refine⟨?_,okL_cons.2 ⟨Nat.mod_lt _ (by omega),h2⟩,?_⟩
   ·rw[wth_cons,h1];omega
   ·rcases h3 with h3|⟨ys,z,e,hz⟩
    ·rw[h3]at h1 ⊢
     simp only[wth]at h1
     exact .inr ⟨[],_,rfl,by omega⟩
    ·rw[e]
     exact .inr ⟨_::ys,z,rfl,hz⟩
theorem lim_fuel (n:Nat):n<4294967296^(n.log2/32+1):=by
 rcases Nat.eq_zero_or_pos n with rfl|h
 ·exact Nat.pow_pos (by omega)
 ·have h1:n<2^(n.log2+1):=Nat.lt_log2_self
  have h2:2^(n.log2+1)<=2^(32*(n.log2/32+1)):=Nat.pow_le_pow_right (by omega) (by omega)
  rw[Nat.pow_mul]at h2
  exact Nat.lt_of_lt_of_le h1 h2
theorem wth_lim (n:Nat):wth (lim n)=n:=(limF_spec _ n (lim_fuel n)).1
theorem okL_lim (n:Nat):okL (lim n):=(limF_spec _ n (lim_fuel n)).2.1
theorem trimL_lim (n:Nat):trimL (lim n):=(limF_spec _ n (lim_fuel n)).2.2
theorem lim_zero:lim 0=[]:=by simp[lim,limF]
theorem trimL_length {xs ys:List Nat} (hx:okL xs) (hy:okL ys) (tx:trimL xs) (h:wth xs<=wth ys):xs.length<=ys.length:=by
 rcases Nat.lt_or_ge ys.length xs.length with hlt|hge
 ·have h1:=trimL_pos tx (by intro e;subst e;simp at hlt)
  have h2:=wth_lt hy
  have h3:4294967296^ys.length<=4294967296^(xs.length-1):=Nat.pow_le_pow_right (by omega) (by omega)
  omega
 ·exact hge
theorem lim_unique {xs:List Nat} (h:okL xs) (ht:trimL xs):xs=lim (wth xs):=by
 have e:=wth_lim (wth xs)
 refine wth_inj h (okL_lim _) ?_ e.symm
 exact Nat.le_antisymm (trimL_length h (okL_lim _) ht (by omega)) (trimL_length (okL_lim _) h (trimL_lim _) (by omega))
theorem lim_eq_nil {n:Nat}:lim n=[]↔n=0:=⟨fun h=>by rw[<- wth_lim n,h];rfl,fun h=>by rw[h,lim_zero]⟩
theorem lim_length_le {xs:List Nat} (h:okL xs):(lim (wth xs)).length<=xs.length:=by
 rcases Nat.lt_or_ge xs.length (lim (wth xs)).length with hlt|hge
 ·have h1:=trimL_pos (trimL_lim (wth xs)) (by intro e;rw[e]at hlt;simp at hlt)
  rw[wth_lim]at h1
  have h2:=wth_lt h
  have h3:4294967296^xs.length<=4294967296^((lim (wth xs)).length-1):=Nat.pow_le_pow_right (by omega) (by omega)
  omega
 ·exact hge
theorem lim_snoc0 (xs:List Nat):lim (wth (xs++[0]))=lim (wth xs):=by rw[wth_snoc0]
abbrev limb (x:Nat):SV := .int .u32 (x:Int)
abbrev natV (xs:List Nat):SV := .sl xs.length (xs.map limb)
theorem limb_at {xs:List Nat} {i:Nat} (h:i<xs.length):((xs.drop i).map limb).head?=some (limb (xs.getD i 0)):=by
 rw[List.head?_map,List.head?_drop,List.getElem?_eq_getElem h,List.getD_eq_getElem?_getD,List.getElem?_eq_getElem h]
 rfl
theorem natV_take (xs:List Nat) (n:Nat):(xs.map limb).take n=(xs.take n).map limb:=(List.map_take ..).symm
theorem natV_drop (xs:List Nat) (n:Nat):(xs.map limb).drop n=(xs.drop n).map limb:=(List.map_drop ..).symm
theorem natV_len (xs:List Nat):(xs.map limb).length=xs.length:=List.length_map ..
theorem natV_one (xs:List Nat):(xs.map limb).all SV.one=true:=by
 rw[List.all_map,List.all_eq_true]
 intro x _
 rfl
def isT (xs:List Nat):Bool:=xs.length==0||xs.getD (xs.length-1) 0 != 0
theorem isT_iff {xs:List Nat}:isT xs=true↔trimL xs:=by
 rcases xs.eq_nil_or_concat with rfl|⟨ys,z,rfl⟩
 ·exact⟨fun _ => .inl rfl,fun _=>rfl⟩
 ·rw[List.concat_eq_append]
  have e:(ys++[z]).getD ((ys++[z]).length-1) 0=z:=by simp
  unfold isT
  rw[e]
  constructor
  ·intro h
   exact .inr ⟨ys,z,rfl,by simpa using h⟩
  ·rintro(h|⟨ys',z',e,hz⟩)
   ·simp at h
   ·obtain⟨_,e2⟩:=List.append_inj' e rfl
    simp at e2
    subst e2
    simpa using hz
theorem natV_cut {xs:List Nat} {n:Nat} (h:n<=xs.length):SV.sl n ((xs.take n).map limb)=natV (xs.take n):=by
 simp only[natV,List.length_take,Nat.min_eq_left h]
theorem getD_lt {xs:List Nat} (h:okL xs) (i:Nat):xs.getD i 0<4294967296:=by
 rw[List.getD_eq_getElem?_getD]
 rcases Nat.lt_or_ge i xs.length with hi|hi
 ·rw[List.getElem?_eq_getElem hi];exact okL_get h hi
 ·rw[List.getElem?_eq_none hi];simp
theorem wth_take_succ (xs:List Nat) (i:Nat):wth (xs.take (i+1))=wth (xs.take i)+4294967296^i*xs.getD i 0:=by
 rw[List.getD_eq_getElem?_getD]
 rcases Nat.lt_or_ge i xs.length with hi|hi
 ·rw[List.take_add_one,wth_append,List.getElem?_eq_getElem hi,List.length_take,Nat.min_eq_left (by omega)]
  simp[wth]
 ·rw[List.getElem?_eq_none hi,List.take_of_length_le (by omega),List.take_of_length_le hi]
  simp
theorem wth_set_take {xs:List Nat} {i:Nat} (hi:i<xs.length) (v:Nat):wth ((xs.set i v).take (i+1))=wth (xs.take i)+4294967296^i*v:=by
 rw[wth_take_succ,List.take_set_of_le (Nat.le_refl i)]
 simp[List.getD_eq_getElem?_getD,hi]
theorem row_set {xs:List Nat} {i:Nat} (v:Nat) (hi:i<xs.length):(xs.take i).map limb++[SV.int .u32 (v:Int)]++(xs.drop (i+1)).map limb=(xs.set i v).map limb:=by
 rw[List.set_eq_take_append_cons_drop,if_pos hi,List.map_append,List.map_cons,List.append_assoc]
 rfl
theorem take_all {xs:List Nat} {n:Nat} (h:xs.length<=n):xs.take n=xs:=List.take_of_length_le h
theorem natV_eq {xs:List Nat} {n:Nat} (h:xs.length=n):SV.sl n (xs.map limb)=natV xs:=by rw[<- h]
theorem fn_natV {C:Cx} {f:FuncId} {xs:List Nat} {n:Nat} {r:SV} (hf:Go.Ev.Fn C f [natV xs] r) (h:xs.length=n):Go.Ev.Fn C f [SV.sl n (xs.map limb)] r:=by rw[natV_eq h];exact hf
theorem row_new (n:Nat):(List.replicate n [SV.int .u32 0]).flatten=(List.replicate n 0).map limb:=by
 induction n with
 |zero=>rfl
 |succ n ih=>rw[List.replicate_succ,List.replicate_succ,List.flatten_cons,ih];rfl
def limN:Nat->Nat->List Nat
 |0,_=>[]
 |n+1,x=>x%4294967296::limN n (x/4294967296)
theorem limN_length (n:Nat) : ∀x,(limN n x).length=n:=by
 induction n with
 |zero=>intro x;rfl
 |succ n ih=>intro x;simp[limN,ih]
theorem okL_limN (n:Nat) : ∀x,okL (limN n x):=by
 induction n with
 |zero=>intro x;exact okL_nil
 |succ n ih=>intro x;exact okL_cons.2 ⟨Nat.mod_lt _ (by omega),ih _⟩
theorem wth_limN (n:Nat) : ∀x,wth (limN n x)=x%4294967296^n:=by
 induction n with
 |zero=>intro x;simp[limN,wth,Nat.mod_one]
 |succ n ih=>
  intro x
  rw[limN,wth_cons,ih,Nat.pow_succ,Nat.mul_comm (4294967296^n),Nat.mod_mul]
theorem limN_unique {xs:List Nat} (h:okL xs) {n x:Nat} (hn:xs.length=n) (hw:wth xs=x%4294967296^n):xs=limN n x:=
 wth_inj h (okL_limN _ _) (by rw[limN_length];exact hn) (by rw[wth_limN];exact hw)
def decL:List SV->Option (List Nat)
 | []=>some []
 | .int .u32 (.ofNat x)::r=>if x<4294967296 then (match decL r with|some l=>some (x::l)|none=>none) else none
 |_=>none
def decV:SV->Option (List Nat)
 | .sl n cs=>match decL cs with
  |some xs=>if xs.length=n/\n<=1073741824 then some xs else none
  |none=>none
 |_=>none
theorem decL_some : ∀ {cs:List SV} {xs:List Nat},decL cs=some xs->cs=xs.map limb/\okL xs:=by
 intro cs
 induction cs with
 |nil=>intro xs h;cases h;exact⟨rfl,okL_nil⟩
 |cons c r ih=>
  intro xs h
  unfold decL at h
  split at h
  ·cases ‹_::_=[]›
  ·rename_i x r' e
   cases e
   split at h
   ·rename_i hx
    split at h
    ·rename_i l hl
     cases h
     obtain⟨h1,h2⟩:=ih hl
     exact⟨by rw[List.map_cons,<- h1];rfl,okL_cons.2 ⟨hx,h2⟩⟩
    ·cases h
   ·cases h
  ·cases h
theorem decL_map : ∀ {xs:List Nat},okL xs->decL (xs.map limb)=some xs:=by
 intro xs
 induction xs with
 |nil=>intro _;rfl
 |cons x xs ih=>
  intro h
  obtain⟨h1,h2⟩:=okL_cons.1 h
  show decL (.int .u32 (.ofNat x)::xs.map limb)=_
  unfold decL
  rw[if_pos h1,ih h2]
theorem decV_some {s:SV} {xs:List Nat} (h:decV s=some xs):s=natV xs/\okL xs/\xs.length<=1073741824:=by
 unfold decV at h
 split at h
 ·rename_i n cs
  split at h
  ·rename_i l hl
   split at h
   ·rename_i hc
    cases h
    obtain⟨h1,h2⟩:=decL_some hl
    obtain⟨rfl,h4⟩:=hc
    exact⟨by rw[h1],h2,h4⟩
   ·cases h
  ·cases h
 ·cases h
theorem decV_nat {xs:List Nat} (h:okL xs) (hl:xs.length<=1073741824):decV (natV xs)=some xs:=by
 unfold decV
 simp only[decL_map h]
 rw[if_pos ⟨trivial,hl⟩]
theorem wI64 {n:Int} (h : -9223372036854775808<=n/\n<9223372036854775808):IntKind.i64.wrap n=n:=by rw[IntKind.wrap_i64];omega
theorem wU64 {n:Int} (h:0<=n/\n<18446744073709551616):IntKind.u64.wrap n=n:=by rw[IntKind.wrap_u64];omega
theorem wU32 {n:Int} (h:0<=n/\n<4294967296):IntKind.u32.wrap n=n:=by rw[IntKind.wrap_u32];omega
theorem wU8 {n:Int} (h:0<=n/\n<256):IntKind.u8.wrap n=n:=by rw[IntKind.wrap_u8];omega
theorem decT {p:Prop} [Decidable p] (h:p):decide p=true:=decide_eq_true h
theorem decF {p:Prop} [Decidable p] (h : ¬p):decide p=false:=decide_eq_false h
theorem beqT {a b:Int} (h:a=b):(a==b)=true:=by simpa using h
theorem beqF {a b:Int} (h:a≠b):(a==b)=false:=by simpa using h
theorem bneT {a b:Int} (h:a≠b):(a != b)=true:=by simpa using h
theorem bneF {a b:Int} (h:a=b):(a != b)=false:=by simpa using h
theorem ifT {p:Prop} [Decidable p] {α:Type} {a b:α} (h:p):ite p a b=a:=if_pos h
theorem ifF {p:Prop} [Decidable p] {α:Type} {a b:α} (h : ¬p):ite p a b=b:=if_neg h
theorem toNat_sub (a b:Nat):((a:Int)-(b:Int)).toNat=a-b:=by omega
theorem toNat_sub1 (a:Nat):((a:Int)-1).toNat=a-1:=by omega
theorem toNat_add (a b:Nat):((a:Int)+(b:Int)).toNat=a+b:=by omega
theorem toNat_add1 (a:Nat):((a:Int)+1).toNat=a+1:=by omega
theorem u32_nat (n:Nat):IntKind.u32.wrap (n:Int)=((n%4294967296:Nat):Int):=by rw[IntKind.wrap_u32];omega
theorem u64_nat (n:Nat):IntKind.u64.wrap (n:Int)=((n%18446744073709551616:Nat):Int):=by rw[IntKind.wrap_u64];omega
theorem fdiv_nat (n m:Nat):((n:Int)).fdiv (m:Int)=((n/m:Nat):Int):=by
 rw[Int.fdiv_eq_ediv_of_nonneg _ (by omega)]
 simp
theorem min_lit {a b:Nat} (h:a<=b):min a b=a:=Nat.min_eq_left h
theorem nadd (a b:Nat):(a:Int)+(b:Int)=((a+b:Nat):Int):=rfl
theorem nadd1 (a:Nat):(a:Int)+1=((a+1:Nat):Int):=rfl
theorem nmul (a b:Nat):(a:Int)*(b:Int)=((a*b:Nat):Int):=rfl
theorem nsub {a b:Nat} (h:b<=a):(a:Int)-(b:Int)=((a-b:Nat):Int):=by omega
theorem nsub1 {a:Nat} (h:1<=a):(a:Int)-1=((a-1:Nat):Int):=by omega
theorem ntwo (k:Nat):(2:Int)^k=((2^k:Nat):Int):=by simp
theorem ofInt_nat (w n:Nat):BitVec.ofInt w (n:Int)=BitVec.ofNat w n:=by simp
theorem or_u64 {a b:Nat} (ha:a<18446744073709551616) (hb:b<18446744073709551616) :
  IntKind.u64.wrap ((BitVec.ofInt IntKind.u64.bits (a:Int) |||BitVec.ofInt IntKind.u64.bits (b:Int)).toNat:Int)=((a |||b:Nat):Int):=by
 have h:a |||b<2^64:=Nat.or_lt_two_pow ha hb
 show IntKind.u64.wrap ((BitVec.ofInt 64 (a:Int) |||BitVec.ofInt 64 (b:Int)).toNat:Int)=_
 rw[ofInt_nat,ofInt_nat,BitVec.toNat_or,BitVec.toNat_ofNat,BitVec.toNat_ofNat,Nat.mod_eq_of_lt ha,Nat.mod_eq_of_lt hb,u64_nat,Nat.mod_eq_of_lt h]
theorem and_u64 {a b:Nat} (ha:a<18446744073709551616) (hb:b<18446744073709551616) :
  IntKind.u64.wrap ((BitVec.ofInt IntKind.u64.bits (a:Int) &&& BitVec.ofInt IntKind.u64.bits (b:Int)).toNat:Int)=((a &&& b:Nat):Int):=by
 have h:a &&& b<2^64:=Nat.lt_of_le_of_lt Nat.and_le_left ha
 show IntKind.u64.wrap ((BitVec.ofInt 64 (a:Int) &&& BitVec.ofInt 64 (b:Int)).toNat:Int)=_
 rw[ofInt_nat,ofInt_nat,BitVec.toNat_and,BitVec.toNat_ofNat,BitVec.toNat_ofNat,Nat.mod_eq_of_lt ha,Nat.mod_eq_of_lt hb,u64_nat,Nat.mod_eq_of_lt h]
theorem or_u32 {a b:Nat} (ha:a<4294967296) (hb:b<4294967296) :
  IntKind.u32.wrap ((BitVec.ofInt IntKind.u32.bits (a:Int) |||BitVec.ofInt IntKind.u32.bits (b:Int)).toNat:Int)=((a |||b:Nat):Int):=by
 have h:a |||b<2^32:=Nat.or_lt_two_pow ha hb
 show IntKind.u32.wrap ((BitVec.ofInt 32 (a:Int) |||BitVec.ofInt 32 (b:Int)).toNat:Int)=_
 rw[ofInt_nat,ofInt_nat,BitVec.toNat_or,BitVec.toNat_ofNat,BitVec.toNat_ofNat,Nat.mod_eq_of_lt ha,Nat.mod_eq_of_lt hb,u32_nat,Nat.mod_eq_of_lt h]
theorem xor_u32 {a b:Nat} (ha:a<4294967296) (hb:b<4294967296) :
  IntKind.u32.wrap ((BitVec.ofInt IntKind.u32.bits (a:Int) ^^^ BitVec.ofInt IntKind.u32.bits (b:Int)).toNat:Int)=((a ^^^ b:Nat):Int):=by
 have h:a ^^^ b<2^32:=Nat.xor_lt_two_pow ha hb
 show IntKind.u32.wrap ((BitVec.ofInt 32 (a:Int) ^^^ BitVec.ofInt 32 (b:Int)).toNat:Int)=_
 rw[ofInt_nat,ofInt_nat,BitVec.toNat_xor,BitVec.toNat_ofNat,BitVec.toNat_ofNat,Nat.mod_eq_of_lt ha,Nat.mod_eq_of_lt hb,u32_nat,Nat.mod_eq_of_lt h]
theorem u32_sub (a b:Nat) (hb:b<=4294967296):IntKind.u32.wrap ((a:Int)-(b:Int))=(((a+(4294967296-b))%4294967296:Nat):Int):=by
 rw[IntKind.wrap_u32];omega
theorem high_bit {z:Nat} (h:z<4294967296):z/2147483648=(z.testBit 31).toNat:=by
 rw[Nat.testBit_eq_decide_div_mod_eq]
 have:z/2^31%2=z/2147483648:=by omega
 rw[this]
 by_cases h1:z/2147483648=1
 ·simp[h1]
 ·have:z/2147483648=0:=by omega
  simp[this]
theorem high_iff {z:Nat} (h:z<4294967296):z.testBit 31=decide (2147483648<=z):=by
 rw[Nat.testBit_eq_decide_div_mod_eq]
 congr 1
 apply propext
 have:z/2^31%2=z/2147483648:=by omega
 rw[this]
 omega
theorem sub32_bit {x y b d:Nat} (hx:x<4294967296) (hy:y<4294967296) (hb:b<=1) (hd:d=((x+(4294967296-y))%4294967296+(4294967296-b))%4294967296) :
  ((4294967295 ^^^ x) &&& y |||(4294967295 ^^^ (x ^^^ y)) &&& d)/2147483648=if x<y+b then 1 else 0:=by
 have hd':d<4294967296:=by omega
 have hx':4294967295 ^^^ x<2^32:=Nat.xor_lt_two_pow (by omega) hx
 have h1:(4294967295 ^^^ x) &&& y<2^32:=Nat.lt_of_le_of_lt Nat.and_le_right hy
 have h2:(4294967295 ^^^ (x ^^^ y)) &&& d<2^32:=Nat.lt_of_le_of_lt Nat.and_le_right hd'
 rw[high_bit (Nat.or_lt_two_pow h1 h2)]
 rw[Nat.testBit_or,Nat.testBit_and,Nat.testBit_and,Nat.testBit_xor,Nat.testBit_xor,Nat.testBit_xor,high_iff hx,high_iff hy,high_iff hd']
 rw[show Nat.testBit 4294967295 31=true by decide]
 by_cases a1:2147483648<=x<;>by_cases a2:2147483648<=y<;>by_cases a3:2147483648<=d<;>by_cases a4:x<y+b<;>simp[a1,a2,a3,a4]<;>omega
theorem u32_ones:(if IntKind.u32.signed=true then (-1:Int) else IntKind.u32.max)=((4294967295:Nat):Int):=rfl
theorem and_u32 {a b:Nat} (ha:a<4294967296) (hb:b<4294967296) :
  IntKind.u32.wrap ((BitVec.ofInt IntKind.u32.bits (a:Int) &&& BitVec.ofInt IntKind.u32.bits (b:Int)).toNat:Int)=((a &&& b:Nat):Int):=by
 have h:a &&& b<2^32:=Nat.lt_of_le_of_lt Nat.and_le_left ha
 show IntKind.u32.wrap ((BitVec.ofInt 32 (a:Int) &&& BitVec.ofInt 32 (b:Int)).toNat:Int)=_
 rw[ofInt_nat,ofInt_nat,BitVec.toNat_and,BitVec.toNat_ofNat,BitVec.toNat_ofNat,Nat.mod_eq_of_lt ha,Nat.mod_eq_of_lt hb,u32_nat,Nat.mod_eq_of_lt h]
theorem b_or64 {a b:Nat} (ha:a<18446744073709551616) (hb:b<18446744073709551616):bitsSV .or .u64 (a:Int) (b:Int)=some (.int .u64 ((a |||b:Nat):Int)):=by
 show some (SV.int _ _)=_;rw[or_u64 ha hb]
theorem b_and64 {a b:Nat} (ha:a<18446744073709551616) (hb:b<18446744073709551616):bitsSV .and .u64 (a:Int) (b:Int)=some (.int .u64 ((a &&& b:Nat):Int)):=by
 show some (SV.int _ _)=_;rw[and_u64 ha hb]
theorem b_or32 {a b:Nat} (ha:a<4294967296) (hb:b<4294967296):bitsSV .or .u32 (a:Int) (b:Int)=some (.int .u32 ((a |||b:Nat):Int)):=by
 show some (SV.int _ _)=_;rw[or_u32 ha hb]
theorem b_and32 {a b:Nat} (ha:a<4294967296) (hb:b<4294967296):bitsSV .and .u32 (a:Int) (b:Int)=some (.int .u32 ((a &&& b:Nat):Int)):=by
 show some (SV.int _ _)=_;rw[and_u32 ha hb]
theorem b_xor32 {a b:Nat} (ha:a<4294967296) (hb:b<4294967296):bitsSV .xor .u32 (a:Int) (b:Int)=some (.int .u32 ((a ^^^ b:Nat):Int)):=by
 show some (SV.int _ _)=_;rw[xor_u32 ha hb]
theorem b_not32 {a:Nat} (ha:a<4294967296):bitsSV .xor .u32 (if IntKind.u32.signed=true then -1 else IntKind.u32.max) (a:Int)=some (.int .u32 ((4294967295 ^^^ a:Nat):Int)):=by
 rw[u32_ones];exact b_xor32 (by decide) ha
theorem or_add (a b:Nat) (hb:b<4294967296):a*4294967296 |||b=a*4294967296+b:=by
 have:=Nat.two_pow_add_eq_or_of_lt (i:=32) hb a
 rw[Nat.mul_comm (2^32) a]at this
 exact this.symm
theorem b_join {a b:Nat} (ha:a*4294967296<18446744073709551616) (hb:b<4294967296):bitsSV .or .u64 ((a*4294967296:Nat):Int) (b:Int)=some (.int .u64 ((a*4294967296+b:Nat):Int)):=by
 rw[b_or64 ha (by omega),or_add a b hb]
theorem tdiv_nat (a b:Nat):(a:Int).tdiv (b:Int)=((a/b:Nat):Int):=rfl
theorem tmod_nat (a b:Nat):(a:Int).tmod (b:Int)=((a%b:Nat):Int):=rfl
theorem bne_nat (x:Nat):(((x:Int) != 0))=(x != 0):=by
 cases x<;>rfl
set_option linter.defProp false
def AR:=And.intro @wI64 (And.intro @u32_nat (And.intro @u64_nat (And.intro @wU64 (And.intro @wU32 (And.intro @wU8 (And.intro @fdiv_nat (And.intro @nadd (And.intro @nadd1 (And.intro @nmul (And.intro @nsub (And.intro @nsub1 (And.intro @ntwo (And.intro @min_lit (And.intro @b_and64 (And.intro @b_or32 (And.intro @b_and32 (And.intro @b_xor32 (And.intro @b_not32 (And.intro @b_join (And.intro @tdiv_nat (And.intro @tmod_nat (And.intro @decT (And.intro @decF (And.intro @beqT (And.intro @beqF (And.intro @bneT (And.intro @bneF (And.intro @toNat_sub (And.intro @toNat_sub1 (And.intro @toNat_add (And.intro @toNat_add1 (And.intro @Int.toNat_natCast (And.intro @limb_at (And.intro @natV_len (And.intro @natV_take (And.intro @natV_drop (And.intro @natV_one (And.intro @row_new (And.intro @row_set (And.intro @Nat.zero_add (And.intro @Nat.add_zero (And.intro @Nat.sub_zero (@Nat.mul_one)))))))))))))))))))))))))))))))))))))))))))
theorem AL : ∀ {α:Type},(∀ (l:List α) (i:Nat) (a:α),(l.set i a).length=l.length)/\(∀ (i:Nat) (l:List α),(l.take i).length=min i l.length)/\(∀ (i:Nat) (l:List α),(l.drop i).length=l.length-i)/\(∀ (n:Nat) (a:α),(List.replicate n a).length=n)/\(∀ (a b:List α),(a++b).length=a.length+b.length):=
 ⟨fun _ _ _=>List.length_set ..,fun _ _=>List.length_take ..,fun _ _=>List.length_drop ..,fun _ _=>List.length_replicate ..,fun _ _=>List.length_append ..⟩
end Go.Ev
namespace Go.Ev
abbrev ratV (s:Bool) (n d:List Nat):SV := .agg [.bool s,natV n,natV d]
abbrev rv (q:Rat):SV:=ratV (decide (q.num<0)) (lim q.num.natAbs) (lim q.den)
def sgn (s:Bool) (n:Nat):Int:=if s then -(n:Int) else (n:Int)
def RatA (v:SV) (q:Rat) (L:Nat):Prop := ∃s n d,v=ratV s n d/\okL n/\okL d/\n.length<=L/\d.length<=L/\q=mkRat (sgn s (wth n)) (wth d)
def szR (q:Rat) (L:Nat):Prop:=(lim q.num.natAbs).length<=L/\(lim q.den).length<=L
theorem sgn_abs (s:Bool) (n:Nat):(sgn s n).natAbs=n:=by unfold sgn;split<;>omega
theorem sgn_neg (s:Bool) {n:Nat} (h:n≠0):decide (sgn s n<0)=s:=by
 unfold sgn
 cases s
 ·simp
 ·simp;omega
theorem sgn_self (z:Int):sgn (decide (z<0)) z.natAbs=z:=by
 unfold sgn
 by_cases h:z<0
 ·rw[decide_eq_true h];simp;omega
 ·rw[decide_eq_false h];simp;omega
theorem sgn_zero (s:Bool):sgn s 0=0:=by cases s<;>rfl
theorem sgn_mul (a b:Int):sgn (decide (a<0) != decide (b<0)) (a.natAbs*b.natAbs)=a*b:=by
 rcases Int.lt_or_le a 0 with ha|ha<;>rcases Int.lt_or_le b 0 with hb|hb
 ·obtain⟨m,rfl⟩ : ∃m:Nat,a = -(m:Int):=⟨a.natAbs,by omega⟩
  obtain⟨n,rfl⟩ : ∃n:Nat,b = -(n:Int):=⟨b.natAbs,by omega⟩
  rw[decide_eq_true ha,decide_eq_true hb]
  simp[sgn,Int.neg_mul,Int.mul_neg]
 ·obtain⟨m,rfl⟩ : ∃m:Nat,a = -(m:Int):=⟨a.natAbs,by omega⟩
  obtain⟨n,rfl⟩ : ∃n:Nat,b=(n:Int):=⟨b.natAbs,by omega⟩
  rw[decide_eq_true ha,decide_eq_false (by omega)]
  simp[sgn,Int.neg_mul,Int.mul_neg]
 ·obtain⟨m,rfl⟩ : ∃m:Nat,a=(m:Int):=⟨a.natAbs,by omega⟩
  obtain⟨n,rfl⟩ : ∃n:Nat,b = -(n:Int):=⟨b.natAbs,by omega⟩
  rw[decide_eq_false (by omega),decide_eq_true hb]
  simp[sgn,Int.neg_mul,Int.mul_neg]
 ·obtain⟨m,rfl⟩ : ∃m:Nat,a=(m:Int):=⟨a.natAbs,by omega⟩
  obtain⟨n,rfl⟩ : ∃n:Nat,b=(n:Int):=⟨b.natAbs,by omega⟩
  rw[decide_eq_false (by omega),decide_eq_false (by omega)]
  simp[sgn,Int.neg_mul,Int.mul_neg]
theorem mk_zero (s:Bool) {n d:Nat} (h:n=0\/d=0):mkRat (sgn s n) d=0:=by
 rcases h with rfl|rfl
 ·rw[sgn_zero,Rat.zero_mkRat]
 ·rw[Rat.mkRat_zero]
theorem lim_one:lim 1=[1]:=by
 have:=lim_unique (xs:=[1]) (by simp[okL]) (.inr ⟨[],1,rfl,by decide⟩)
 exact this.symm
theorem rv_zero:rv 0=ratV false [] [1]:=by
 show ratV (decide ((0:Int)<0)) (lim (0:Int).natAbs) (lim 1)=_
 rw[lim_one,show (0:Int).natAbs=0 by rfl,lim_zero]
 rfl
theorem mk_parts (s:Bool) {n d:Nat} (hn:n≠0) (hd:d≠0):rv (mkRat (sgn s n) d)=ratV s (lim (n/Nat.gcd n d)) (lim (d/Nat.gcd n d)):=by
 have h1:mkRat (sgn s n) d={ num:=sgn s n/((sgn s n).natAbs.gcd d:Nat),den:=d/(sgn s n).natAbs.gcd d,den_nz:=Nat.ne_of_gt (Nat.div_pos (Nat.gcd_le_right _ (by omega)) (Nat.gcd_pos_of_pos_right _ (by omega))),reduced:=Rat.normalize.reduced (num:=sgn s n) hd rfl }:=by
  rw[Rat.mkRat_def,dif_neg hd,Rat.normalize_eq]
 have h2:(mkRat (sgn s n) d).num=sgn s n/((sgn s n).natAbs.gcd d:Nat):=by rw[h1]
 have h3:(mkRat (sgn s n) d).den=d/(sgn s n).natAbs.gcd d:=by rw[h1]
 rw[rv,h2,h3,sgn_abs]
 have hg:0<n.gcd d:=Nat.gcd_pos_of_pos_left _ (by omega)
 obtain⟨k,hk⟩:=Nat.gcd_dvd_left n d
 have hk0:k≠0:=by rintro rfl;omega
 have h4 : ∀g:Nat,0<g->n=g*k->sgn s n/(g:Int)=sgn s k:=by
  intro g hg hn
  rw[hn]
  unfold sgn
  split
  ·rw[Int.natCast_mul,<- Int.mul_neg,Int.mul_ediv_cancel_left _ (by omega)]
  ·rw[Int.natCast_mul,Int.mul_ediv_cancel_left _ (by omega)]
 have h5:n/n.gcd d=k:=Nat.div_eq_of_eq_mul_right hg hk
 rw[h4 _ hg hk,sgn_abs,sgn_neg _ hk0,h5]
theorem RatA_rv {q:Rat} {L:Nat} (h:szR q L):RatA (rv q) q L:=
 ⟨_,_,_,rfl,okL_lim _,okL_lim _,h.1,h.2,by rw[wth_lim,wth_lim,sgn_self,Rat.mkRat_self]⟩
theorem szR_mono {q:Rat} {L M:Nat} (h:szR q L) (hl:L<=M):szR q M:=⟨Nat.le_trans h.1 hl,Nat.le_trans h.2 hl⟩
theorem lim_len_mono {a b:Nat} (h:a<=b):(lim a).length<=(lim b).length:=trimL_length (okL_lim _) (okL_lim _) (trimL_lim _) (by rw[wth_lim,wth_lim];exact h)
theorem lim_len_lt {a L:Nat} (h:a<4294967296^L):(lim a).length<=L:=by
 have h1:=trimL_length (xs:=lim a) (ys:=limN L a) (okL_lim _) (okL_limN _ _) (trimL_lim _) (by rw[wth_lim,wth_limN,Nat.mod_eq_of_lt h];exact Nat.le_refl _)
 rw[limN_length]at h1
 exact h1
theorem lim_len_pow {a:Nat}:a<4294967296^(lim a).length:=by
 have:=wth_lt (okL_lim a)
 rw[wth_lim]at this
 exact this
theorem lim_len_mul {a b:Nat}:(lim (a*b)).length<=(lim a).length+(lim b).length:=by
 refine lim_len_lt ?_
 rw[Nat.pow_add]
 exact Nat.lt_of_le_of_lt (Nat.mul_le_mul_left _ (Nat.le_of_lt lim_len_pow)) (Nat.mul_lt_mul_of_pos_right lim_len_pow (Nat.pow_pos (by decide)))
theorem lim_len_add {a b L:Nat} (ha:(lim a).length<=L) (hb:(lim b).length<=L):(lim (a+b)).length<=L+1:=by
 refine lim_len_lt ?_
 have h1:=Nat.lt_of_lt_of_le (lim_len_pow (a:=a)) (Nat.pow_le_pow_right (n:=4294967296) (by omega) ha)
 have h2:=Nat.lt_of_lt_of_le (lim_len_pow (a:=b)) (Nat.pow_le_pow_right (n:=4294967296) (by omega) hb)
 rw[Nat.pow_succ]
 omega
theorem szR_mk {s:Bool} {n d L:Nat} (hn:(lim n).length<=L) (hd:(lim d).length<=L) (hL:1<=L):szR (mkRat (sgn s n) d) L:=by
 by_cases h:n=0\/d=0
 ·rw[mk_zero s h]
  exact⟨by rw[show (0:Rat).num.natAbs=0 by rfl,lim_zero];simp,by rw[show (0:Rat).den=1 by rfl,lim_one];exact hL⟩
 ·have h1:=mk_parts s (fun e=>h (.inl e)) (fun e=>h (.inr e))
  simp only[rv,ratV,SV.agg.injEq,List.cons.injEq,natV,SV.sl.injEq,and_true]at h1
  obtain⟨_,⟨h2,_⟩,h3,_⟩:=h1
  refine⟨?_,?_⟩
  ·rw[h2];exact Nat.le_trans (lim_len_mono (Nat.div_le_self _ _)) hn
  ·rw[h3];exact Nat.le_trans (lim_len_mono (Nat.div_le_self _ _)) hd
theorem szR_of {v:SV} {q:Rat} {L:Nat} (h:RatA v q L) (hL:1<=L):szR q L:=by
 obtain⟨s,n,d,rfl,h2,h3,h4,h5,rfl⟩:=h
 exact szR_mk (Nat.le_trans (lim_length_le h2) h4) (Nat.le_trans (lim_length_le h3) h5) hL
end Go.Ev
