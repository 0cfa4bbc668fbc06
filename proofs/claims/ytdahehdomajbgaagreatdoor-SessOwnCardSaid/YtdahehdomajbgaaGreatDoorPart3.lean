/- Part 3 of the proof: the evaluator, contracts of functions and their plain laws (joined by program). No condition. -/
import Derived.Test.YtdahehdomajbgaaGreatDoorPart2
import Derived.LoopN
import Derived.Scope
set_option linter.unusedVariables false
set_option linter.unusedSimpArgs false
set_option maxRecDepth 100000
namespace Go.Ev
open Go.RowKit
section
variable {P:Program} {w0 w:World} {F I:Nat->Prop} {Z:Zy} {N:Nat} {β:Nat->Nat->Nat} {st:St} {a:Act}
theorem call_run {g:FuncId} {f:Operand} {args:Array Operand} {tys:Array TypeId} {vs:Array Value} (hf:a.eval f = .func (.func g) #[] vs) (hg:Enters P g) (dst:Option Nat) (ty:TypeId) (pos:String) (af:Array Edge) (gd:Option (Nat×Bool)) :
  (execOp a.eval ⟨dst,.call { callee := .value f,args:=args,argTypes:=tys },ty,pos,af,gd⟩).run P w = .ok (.enter g (args.map a.eval++vs)) w:=by
 simp only[execOp,resolve,hf,Deferred.ofValue,Sem.run_bind,Sem.run_pure,Result.andThen_ok,invoke]
 rw[hg]
 simp
theorem calls_goes {g:FuncId} {f:Operand} {args:Array Operand} {tys:Array TypeId} {vs:Array Value} (hf:a.eval f = .func (.func g) #[] vs) {K:Act->World->Prop} {dst:Option Nat} {ty:TypeId} {pos:String} {af:Array Edge} {gd:Option (Nat×Bool)}
  (h:Invk P g (args.map a.eval++vs) w fun e w' => ∃v,e = .returned v/\K (a.put dst v) w') :
  Goes P a ⟨dst,.call { callee := .value f,args:=args,argTypes:=tys },ty,pos,af,gd⟩ w K:=by
 intro Q
 rcases h with⟨hg,h⟩|⟨v,h,v',hv,hk⟩
 ·unfold Oper.wp
  rw[call_run hf hg,Oper.upon_enter]
  refine h.mono ?_
  rintro e w' ⟨v,rfl,hk⟩
  exact hk
 ·cases hv
  unfold Oper.wp
  have:(execOp a.eval ⟨dst,.call { callee := .value f,args:=args,argTypes:=tys },ty,pos,af,gd⟩).run P w = .ok (.value v) w:=by
   simp only[execOp,resolve,hf,Deferred.ofValue,Sem.run_bind,Sem.run_pure,Result.andThen_ok,invoke]
   simpa using h
  rw[this,Oper.upon_value]
  exact hk
theorem impB_sv (ss:List SV) (B:Nat->Nat) (b:Nat) : ¬impB (ss.map Arg.sv) B b:=by
 rintro⟨i,x,hx,hi,_⟩
 rw[List.getElem?_map]at hx
 cases hs:ss[i]? with
 |none=>rw[hs]at hx;cases hx
 |some s=>rw[hs]at hx;cases hx;cases hi
theorem afterCall_goes (h:Rel w0 F I Z N β st a w) {dst:Option Nat} {soft:Bool} {st':St} {r:Ret} {exps:List (Option (List SV))} (hd : ∀d,dst=some d->d<N) (hs:afterCall soft dst st (some (r,exps))=some st')
  {w':World} {v:Value} (hr:RetRep w w' (Mut F β st) v r) (he:Ext (fun _=>False) w w'):To w0 F I Z N st' (a.put dst v) w':=by
 cases r with
 |sv s=>
  cases hs
  have h':=h.ext0 he
  exact⟨β,h'.putO (t := .sv s) hd hr (fun d g e=>by simp[TV.id]at e)⟩
 |obj cs=>
  unfold afterCall at hs
  simp only at hs
  split at hs
  ·cases hs
  ·split at hs
   ·rename_i d
    cases hs
    obtain⟨b,rfl,hb,hc⟩:=hr
    exact⟨_,h.adopt he (hd d rfl) hb hc rfl (fun _=>by show _=_;rw[upd_self])⟩
   ·cases hs
 |row cs size off n=>
  unfold afterCall at hs
  simp only at hs
  split at hs
  ·cases hs
   have h':=h.ext0 he
   obtain⟨b,cap,us,ty,rfl,h1,h2,h3,hb,us',ty',h2',hall⟩:=hr
   refine⟨β,h'.putO (t := .sv (.sl n ((cs.drop off).take (n*size)))) hd ?_ (fun d g e=>by simp[TV.id]at e)⟩
   have hnb : ¬Mut F β st b:=fun hm=>absurd (h.mut_lt hm) (by omega)
   have key : ∀ (i:Nat) (s:SV),((cs.drop off).take (n*size))[i]?=some s -> ∃v:Value,us'[off+i]?=some v/\Rep w' (Mut F β st) v s:=by
    intro i s hi
    rw[List.getElem?_take]at hi
    split at hi
    ·rw[List.getElem?_drop]at hi
     obtain⟨_,v,hv,hrv⟩:=hall _ s hi
     exact⟨v,hv,Rep.mono (w:=w') (fun _ _ _=>rfl) (fun x _ hm => .inl hm) hrv⟩
    ·cases hi
   refine .sl _ _ _ h1 _ (fun i=>us'.getD (off+i) undef) hnb (fun i s hi => ?_) (fun i s hi => ?_)
   ·obtain⟨v,hv,_⟩:=key i s hi
    rw[add_mk]
    simp[World.cell?,h2',hv,Array.getD_eq_getD_getElem?]
   ·obtain⟨v,hv,hrv⟩:=key i s hi
    rw[show us'.getD (off+i) undef=v by rw[Array.getD_eq_getD_getElem?,hv];rfl]
    exact hrv
  ·split at hs
   ·rename_i d
    cases hs
    obtain⟨b,cap,us,ty,rfl,h1,h2,h3,hb,hc⟩:=hr
    exact⟨_,h.adopt he (hd d rfl) hb hc rfl (fun _=>⟨cap,us,ty,by rw[upd_self],h1,by rw[upd_self];exact h2,h3⟩)⟩
   ·cases hs
 |heap ts=>
  unfold afterCall at hs
  simp only at hs
  split at hs
  ·cases hs
  ·split at hs
   ·rename_i d
    cases hs
    obtain⟨b,us,ty,rfl,hb,hheap,hc⟩:=hr
    exact⟨_,h.adoptH he (hd d rfl) hb hheap (fun i t ht=>by
     obtain⟨h1,u,hu,h2,h3⟩:=hc i t ht
     exact⟨.inl h1,u,hu,h2,h3 β⟩)⟩
   ·cases hs
 |st s t=>cases hs
theorem pure_goes (h:Rel w0 F I Z N β st a w) {call:Callf} (hcall:CallOk P Z.gl call) {g:FuncId} {caps ss:List SV} {f:Operand} {args:Array Operand} {tys:Array TypeId} {dst:Option Nat} {soft:Bool} {st':St} (hd : ∀d,dst=some d->d<N)
  (hf:st.eval f = .sv (.fn g caps)) (hss:allSV (args.toList.map st.eval)=some ss) (hs:afterCall soft dst st (call g ((ss++caps).map Arg.sv))=some st') (ty:TypeId) (pos:String) (af:Array Edge) (gd:Option (Nat×Bool)) :
  Goes P a ⟨dst,.call { callee := .value f,args:=args,argTypes:=tys },ty,pos,af,gd⟩ w (To w0 F I Z N st'):=by
 cases hc:call g ((ss++caps).map Arg.sv) with
 |none=>rw[hc]at hs;cases hs
 |some re=>
  obtain⟨r,exps⟩:=re
  rw[hc]at hs
  have hC:=hcall _ _ _ _ hc
  obtain⟨hl,hrep⟩:=allSV_rep h hss
  have hfv:=h.eval f
  rw[hf]at hfv
  generalize hfe:a.eval f=fv at hfv
  cases hfv with
  |fn _ vs _ hvl hvr=>
   refine calls_goes hfe ?_
   have hsz:args.size=ss.length:=by rw[<- hl];simp
   refine(hC w (Mut F β st) (fun _=>0) _ h.glob (fun b hb=>h.mut_lt hb) ?_ (fun i x hx => ?_) (fun i j x y hx _ hi _ _ => ?_)).mono ?_
   ·simp[hvl,hsz]
   ·rw[List.getElem?_map]at hx
    cases hsx:(ss++caps)[i]? with
    |none=>rw[hsx]at hx;cases hx
    |some s=>
     rw[hsx]at hx
     cases hx
     show Rep w _ _ s
     rw[Array.getD_eq_getD_getElem?]
     rcases Nat.lt_or_ge i ss.length with hi|hi
     ·rw[List.getElem?_append_left hi]at hsx
      obtain⟨v,hv,hr⟩:=hrep i s hsx
      rw[Array.getElem?_append_left (by simpa[<- hl]using hi),<- Array.getElem?_toList,Array.toList_map,hv]
      exact hr
     ·rw[List.getElem?_append_right hi]at hsx
      have:=hvr _ s hsx
      rw[Array.getD_eq_getD_getElem?]at this
      rw[Array.getElem?_append_right (by simp;omega)]
      simp only[Array.size_map]
      rw[show args.size=ss.length from by rw[<- hl];simp]
      exact this
   ·rw[List.getElem?_map]at hx
    cases hsx:(ss++caps)[i]? with
    |none=>rw[hsx]at hx;cases hx
    |some s=>rw[hsx]at hx;cases hx;cases hi
   ·rintro e w' ⟨v,rfl,hr,he,_⟩
    exact⟨v,rfl,afterCall_goes h hd hs hr (he.mono (fun b hb=>impB_sv _ _ b hb) (fun b hb=>hb.elim))⟩
theorem impArgs_get : ∀ {vs:List TV} {ars:List Arg},impArgs st vs=some ars->ars.length=vs.length /\ ∀ (i:Nat) (x:Arg),ars[i]?=some x ->
  ∃v,vs[i]?=some v/\((∃s,x = .sv s/\v.toSV=some s)\/(∃d g cs,v = .ptr d g 0/\x = .imp cs/\st.obj d g=some cs) \/ ∃d g cs size off n,v = .ref d g size off n/\x = .impref cs size off n/\st.obj d g=some cs)
 | [],ars,h=>by cases h;exact⟨rfl,fun i x hx=>by simp at hx⟩
 |v::r,ars,h=>by
  unfold impArgs at h
  split at h
  ·cases h
  ·rename_i l hl
   obtain⟨h1,h2⟩:=impArgs_get hl
   have fin : ∀ {x:Arg},ars=x::l->((∃s,x = .sv s/\v.toSV=some s)\/(∃d g cs,v = .ptr d g 0/\x = .imp cs/\st.obj d g=some cs) \/ ∃d g cs size off n,v = .ref d g size off n/\x = .impref cs size off n/\st.obj d g=some cs) ->
     ars.length=(v::r).length /\ ∀ (i:Nat) (x:Arg),ars[i]?=some x ->
     ∃u,(v::r)[i]?=some u/\((∃s,x = .sv s/\u.toSV=some s)\/(∃d g cs,u = .ptr d g 0/\x = .imp cs/\st.obj d g=some cs) \/ ∃d g cs size off n,u = .ref d g size off n/\x = .impref cs size off n/\st.obj d g=some cs):=by
    intro x e hx
    subst e
    refine⟨by simp[h1],fun i y hy => ?_⟩
    cases i with
    |zero=>simp only[List.getElem?_cons_zero,Option.some.injEq]at hy;subst hy;exact⟨v,rfl,hx⟩
    |succ i=>simp only[List.getElem?_cons_succ]at hy ⊢;exact h2 i y hy
   split at h
   ·rename_i d g
    split at h
    ·cases h
    ·split at h
     ·rename_i cs hc;cases h;exact fin rfl (.inr (.inl ⟨d,g,cs,rfl,rfl,hc⟩))
     ·cases h
   ·rename_i d g size off n
    split at h
    ·cases h
    ·split at h
     ·rename_i cs hc;cases h;exact fin rfl (.inr (.inr ⟨d,g,cs,size,off,n,rfl,rfl,hc⟩))
     ·cases h
   ·split at h
    ·rename_i s hs;cases h;exact fin rfl (.inl ⟨s,rfl,hs⟩)
    ·cases h
theorem impArgs_lt : ∀ {vs:List TV} {ars:List Arg},impArgs st vs=some ars -> ∀ {i:Nat} {v:TV} {d g:Nat},vs[i]?=some v->v.id=some (d,g)->d<H0
 | [],_,_,i,v,d,g,hv,_=>by simp at hv
 |x::r,ars,h,i,v,d,g,hv,hi=>by
  unfold impArgs at h
  split at h
  ·cases h
  ·rename_i l hl
   cases i with
   |zero=>
    simp only[List.getElem?_cons_zero,Option.some.injEq]at hv
    subst hv
    split at h
    ·split at h
     ·cases h
     ·rename_i hn
      simp only[TV.id,Option.some.injEq,Prod.mk.injEq]at hi
      obtain⟨rfl,rfl⟩:=hi
      omega
    ·split at h
     ·cases h
     ·rename_i hn
      simp only[TV.id,Option.some.injEq,Prod.mk.injEq]at hi
      obtain⟨rfl,rfl⟩:=hi
      omega
    ·split at h
     ·rename_i hs
      cases x<;>simp[TV.id,TV.toSV]at hi hs
     ·cases h
   |succ i=>simp only[List.getElem?_cons_succ]at hv;exact impArgs_lt hl hv hi
theorem expAll_hob : ∀ {vs:List TV} {exps:List (Option (List SV))} {st st':St},expAll st vs exps=some st'->st'.hob=st.hob/\st'.up=st.up/\st'.bm=st.bm/\st'.bw=st.bw
 | [],[],st,st',h=>by cases h;exact⟨rfl,rfl,rfl,rfl⟩
 | [],_::_,st,st',h=>by simp[expAll]at h
 |x::r,[],st,st',h=>by cases x<;>simp[expAll]at h
 |x::r,e::l,st,st',h=>by
  cases x<;>cases e<;>simp only[expAll]at h<;>first|(cases h;done)|(have:=expAll_hob h;exact this)
theorem impIds_get : ∀ {vs:List TV} {i:Nat} {v:TV} {d g:Nat},vs[i]?=some v->v.id=some (d,g)->(d,g)∈impIds vs
 |v::r,0,u,d,g,h,hi=>by
  simp only[List.getElem?_cons_zero,Option.some.injEq]at h
  subst h
  cases v with
  |ptr d' g' off=>simp only[TV.id,Option.some.injEq,Prod.mk.injEq]at hi;obtain⟨rfl,rfl⟩:=hi;exact List.mem_cons_self
  |ref d' g' size off n=>simp only[TV.id,Option.some.injEq,Prod.mk.injEq]at hi;obtain⟨rfl,rfl⟩:=hi;exact List.mem_cons_self
  |rfc d' g' size off n c=>simp only[TV.id,Option.some.injEq,Prod.mk.injEq]at hi;obtain⟨rfl,rfl⟩:=hi;exact List.mem_cons_self
  |pst d' g'=>simp only[TV.id,Option.some.injEq,Prod.mk.injEq]at hi;obtain⟨rfl,rfl⟩:=hi;exact List.mem_cons_self
  |tp d' g' size off n c=>simp only[TV.id,Option.some.injEq,Prod.mk.injEq]at hi;obtain⟨rfl,rfl⟩:=hi;exact List.mem_cons_self
  |_=>simp[TV.id]at hi
 |v::r,i+1,u,d,g,h,hi=>by
  simp only[List.getElem?_cons_succ]at h
  have:=impIds_get h hi
  cases v<;>first|exact List.mem_cons_of_mem _ this|exact this
theorem impIds_distinct : ∀ {vs:List TV},distinct (impIds vs)=true -> ∀ {i j:Nat} {u v:TV} {d g:Nat},vs[i]?=some u->vs[j]?=some v->u.id=some (d,g)->v.id=some (d,g)->i=j
 | [],_,i,j,u,v,d,g,h,_,_,_=>by simp at h
 |x::r,hd,i,j,u,v,d,g,hu,hv,hiu,hiv=>by
  have hr:distinct (impIds r)=true:=by
   cases x<;>simp only[impIds,distinct,Bool.and_eq_true]at hd<;>first|exact hd.2|exact hd
  have hx : ∀ {k:Nat} {y:TV},r[k]?=some y->y.id=some (d,g)->x.id=some (d,g)->False:=by
   intro k y hy hiy hix
   have hm:=impIds_get hy hiy
   cases x with
   |ptr d' g' off=>
    simp only[TV.id,Option.some.injEq,Prod.mk.injEq]at hix
    obtain⟨rfl,rfl⟩:=hix
    simp only[impIds,distinct,Bool.and_eq_true,Bool.not_eq_true',List.contains_eq_mem,decide_eq_false_iff_not]at hd
    exact hd.1 hm
   |ref d' g' size off n=>
    simp only[TV.id,Option.some.injEq,Prod.mk.injEq]at hix
    obtain⟨rfl,rfl⟩:=hix
    simp only[impIds,distinct,Bool.and_eq_true,Bool.not_eq_true',List.contains_eq_mem,decide_eq_false_iff_not]at hd
    exact hd.1 hm
   |rfc d' g' size off n c=>
    simp only[TV.id,Option.some.injEq,Prod.mk.injEq]at hix
    obtain⟨rfl,rfl⟩:=hix
    simp only[impIds,distinct,Bool.and_eq_true,Bool.not_eq_true',List.contains_eq_mem,decide_eq_false_iff_not]at hd
    exact hd.1 hm
   |pst d' g' =>
    simp only[TV.id,Option.some.injEq,Prod.mk.injEq]at hix
    obtain⟨rfl,rfl⟩:=hix
    simp only[impIds,distinct,Bool.and_eq_true,Bool.not_eq_true',List.contains_eq_mem,decide_eq_false_iff_not]at hd
    exact hd.1 hm
   |tp d' g' size off n c=>
    simp only[TV.id,Option.some.injEq,Prod.mk.injEq]at hix
    obtain⟨rfl,rfl⟩:=hix
    simp only[impIds,distinct,Bool.and_eq_true,Bool.not_eq_true',List.contains_eq_mem,decide_eq_false_iff_not]at hd
    exact hd.1 hm
   |_=>simp[TV.id]at hix
  cases i with
  |zero=>
   simp only[List.getElem?_cons_zero,Option.some.injEq]at hu
   subst hu
   cases j with
   |zero=>rfl
   |succ j=>simp only[List.getElem?_cons_succ]at hv;exact(hx hv hiv hiu).elim
  |succ i=>
   simp only[List.getElem?_cons_succ]at hu
   cases j with
   |zero=>
    simp only[List.getElem?_cons_zero,Option.some.injEq]at hv
    subst hv
    exact(hx hu hiu hiv).elim
   |succ j=>
    simp only[List.getElem?_cons_succ]at hv
    rw[impIds_distinct hr hu hv hiu hiv]
theorem expAll_spec : ∀ {vs:List TV} {exps:List (Option (List SV))} {st st':St},expAll st vs exps=some st' ->
  st'.tmp=st.tmp/\st'.gen=st.gen/\(∀d g,(∀ (i:Nat) (v:TV),vs[i]?=some v->v.id≠some (d,g))->st'.obj d g=st.obj d g) /\
  (distinct (impIds vs)=true -> ∀ (i:Nat) (v:TV) (d g:Nat),vs[i]?=some v->v.id=some (d,g) -> ∃cs,exps[i]?=some (some cs)/\st'.obj d g=some cs)
 | [],exps,st,st',h=>by
  cases exps with
  |nil=>cases h;exact⟨rfl,rfl,fun _ _ _=>rfl,fun _ i v d g hv=>by simp at hv⟩
  |cons=>simp[expAll]at h
 |x::r,[],st,st',h=>by cases x<;>simp[expAll]at h
 |x::r,e::l,st,st',h=>by
  have go : ∀ {d0 g0:Nat} {cs:List SV},x.id=some (d0,g0)->e=some cs->expAll (st.set d0 g0 cs) r l=some st' ->
    st'.tmp=st.tmp/\st'.gen=st.gen/\(∀d g,(∀ (i:Nat) (v:TV),(x::r)[i]?=some v->v.id≠some (d,g))->st'.obj d g=st.obj d g) /\
    (distinct (impIds (x::r))=true -> ∀ (i:Nat) (v:TV) (d g:Nat),(x::r)[i]?=some v->v.id=some (d,g) -> ∃cs,(e::l)[i]?=some (some cs)/\st'.obj d g=some cs):=by
   intro d0 g0 cs hid he hx
   obtain⟨h1,h2,h3,h4⟩:=expAll_spec hx
   refine⟨h1,h2,fun d g hno => ?_,fun hd i v d g hv hi => ?_⟩
   ·rw[h3 d g (fun i v hv=>hno (i+1) v (by simpa using hv))]
    have : ¬(d=d0/\g=g0):=fun e=>hno 0 x rfl (by rw[hid,e.1,e.2])
    simp only[St.set,if_neg this]
   ·have hr:distinct (impIds r)=true:=by
     cases x<;>simp only[impIds,distinct,Bool.and_eq_true]at hd<;>first|exact hd.2|exact hd
    cases i with
    |zero=>
     simp only[List.getElem?_cons_zero,Option.some.injEq]at hv
     subst hv
     rw[hid]at hi
     cases hi
     refine⟨cs,by rw[he];rfl,?_⟩
     rw[h3 d0 g0 (fun j u hu hju=>by
      have:=impIds_distinct hd (i:=0) (j:=j+1) (u:=x) (v:=u) rfl (by simpa using hu) hid hju
      omega)]
     simp[St.set]
    |succ i=>
     simp only[List.getElem?_cons_succ]at hv ⊢
     exact h4 hr i v d g hv hi
  have skip:x.id=none->e=none->expAll st r l=some st' ->
    st'.tmp=st.tmp/\st'.gen=st.gen/\(∀d g,(∀ (i:Nat) (v:TV),(x::r)[i]?=some v->v.id≠some (d,g))->st'.obj d g=st.obj d g) /\
    (distinct (impIds (x::r))=true -> ∀ (i:Nat) (v:TV) (d g:Nat),(x::r)[i]?=some v->v.id=some (d,g) -> ∃cs,(e::l)[i]?=some (some cs)/\st'.obj d g=some cs):=by
   intro hid he hx
   obtain⟨h1,h2,h3,h4⟩:=expAll_spec hx
   refine⟨h1,h2,fun d g hno=>h3 d g (fun i v hv=>hno (i+1) v (by simpa using hv)),fun hd i v d g hv hi => ?_⟩
   have hr:distinct (impIds r)=true:=by
    cases x<;>simp only[impIds,distinct,Bool.and_eq_true]at hd<;>first|exact hd.2|exact hd
   cases i with
   |zero=>
    simp only[List.getElem?_cons_zero,Option.some.injEq]at hv
    subst hv
    rw[hid]at hi
    cases hi
   |succ i=>
    simp only[List.getElem?_cons_succ]at hv ⊢
    exact h4 hr i v d g hv hi
  cases x with
  |ptr d0 g0 off=>cases e with
   |none=>simp[expAll]at h
   |some cs=>exact go rfl rfl h
  |ref d0 g0 size off n=>cases e with
   |none=>simp[expAll]at h
   |some cs=>exact go rfl rfl h
  |rfc d0 g0 size off n c=>cases e<;>simp[expAll]at h
  |pst d0 g0=>cases e<;>simp[expAll]at h
  |tp d0 g0 size off n c=>cases e<;>simp[expAll]at h
  |sv s=>cases e with
   |none=>exact skip rfl rfl h
   |some cs=>simp[expAll]at h
  |nil=>cases e with
   |none=>exact skip rfl rfl h
   |some cs=>simp[expAll]at h
  |undef=>cases e with
   |none=>exact skip rfl rfl h
   |some cs=>simp[expAll]at h
  |skip=>cases e with
   |none=>exact skip rfl rfl h
   |some cs=>simp[expAll]at h
  |emp=>cases e with
   |none=>exact skip rfl rfl h
   |some cs=>simp[expAll]at h
theorem Rel.holds (h:Rel w0 F I Z N β st a w) {d g:Nat} {cs:List SV} (ho:st.obj d g=some cs):Holds w (Mut F β st) (β d g) cs:=by
 obtain⟨us,ty,hb,hall⟩:=h.objs d g cs ho
 exact⟨us,ty,hb,hall⟩
theorem import_goes (h:Rel w0 F I Z N β st a w) {call:Callf} (hcall:CallOk P Z.gl call) {g:FuncId} {caps:List SV} {f:Operand} {args:Array Operand} {tys:Array TypeId} {dst:Option Nat} {st':St} {s:SV} {ars:List Arg} {exps:List (Option (List SV))}
  (hd : ∀d,dst=some d->d<N) (hf:st.eval f = .sv (.fn g caps)) (hdi:distinct (impIds (args.toList.map st.eval))=true) (has:impArgs st (args.toList.map st.eval)=some ars) (hc:call g (ars++caps.map Arg.sv)=some (.sv s,exps))
  (hx:expAll st (args.toList.map st.eval) (exps.take args.toList.length)=some st') (ty:TypeId) (pos:String) (af:Array Edge) (gd:Option (Nat×Bool)) :
  Goes P a ⟨dst,.call { callee := .value f,args:=args,argTypes:=tys },ty,pos,af,gd⟩ w (To w0 F I Z N (st'.putO dst (.sv s))):=by
 have hC:=hcall _ _ _ _ hc
 obtain⟨hl,hget⟩:=impArgs_get has
 obtain⟨x1,x2,x3,x4⟩:=expAll_spec hx
 have x4:=x4 hdi
 have hfv:=h.eval f
 rw[hf]at hfv
 generalize hfe:a.eval f=fv at hfv
 have hlen:ars.length=args.size:=by rw[hl];simp
 let B:Nat->Nat:=fun i=>match ((args.toList.map st.eval)[i]?).bind TV.id with
  |some (d,g)=>β d g
  |none=>0
 have hB : ∀ {i:Nat} {v:TV} {d g:Nat},(args.toList.map st.eval)[i]?=some v->v.id=some (d,g)->B i=β d g:=by
  intro i v d g hv hi
  simp only[B,hv,Option.bind_some,hi]
 have hval : ∀ {i:Nat} {v:TV},(args.toList.map st.eval)[i]?=some v -> ∃x:Operand,args[i]?=some x/\v=st.eval x:=by
  intro i v hv
  rw[List.getElem?_map]at hv
  obtain⟨x,hx,rfl⟩:=map_some hv
  exact⟨x,by simpa using hx,rfl⟩
 -- the imports' objects
 have himp : ∀ {i:Nat} {x:Arg},(ars++caps.map Arg.sv)[i]?=some x->isImp x=true->i<ars.length /\ ∃ (v:TV) (d g:Nat) (cs:List SV),(args.toList.map st.eval)[i]?=some v/\v.id=some (d,g)/\st.obj d g=some cs:=by
  intro i x hix hi
  rcases Nat.lt_or_ge i ars.length with hlt|hge
  ·refine⟨hlt,?_⟩
   rw[List.getElem?_append_left hlt]at hix
   obtain⟨v,hv,hcase⟩:=hget i x hix
   rcases hcase with⟨s,rfl,_⟩|⟨d,g,cs,rfl,_,ho⟩|⟨d,g,cs,size,off,n,rfl,_,ho⟩
   ·cases hi
   ·exact⟨_,d,g,cs,hv,rfl,ho⟩
   ·exact⟨_,d,g,cs,hv,rfl,ho⟩
  ·rw[List.getElem?_append_right hge,List.getElem?_map]at hix
   obtain⟨s,_,rfl⟩:=map_some hix
   cases hi
 cases hfv with
 |fn _ vs _ hvl hvr=>
  refine calls_goes hfe ?_
  refine(hC w (Mut F β st) B _ h.glob (fun b hb=>h.mut_lt hb) ?_ (fun i x hix => ?_) (fun i j x y hix hjy hi hj e => ?_)).mono ?_
  ·simp[hvl,hlen]
  ·rcases Nat.lt_or_ge i ars.length with hlt|hge
   ·rw[List.getElem?_append_left hlt]at hix
    obtain⟨v,hv,hcase⟩:=hget i x hix
    obtain⟨y,hy,rfl⟩:=hval hv
    have hgd:(args.map a.eval++vs).getD i undef=a.eval y:=by
     rw[Array.getD_eq_getD_getElem?,Array.getElem?_append_left (by simpa[<- hlen]using hlt),Array.getElem?_map,hy]
     rfl
    rw[hgd]
    have hey:=h.eval y
    rcases hcase with⟨s,rfl,hs⟩|⟨d,g,cs,he,rfl,ho⟩|⟨d,g,cs,size,off,n,he,rfl,ho⟩
    ·exact toSV_rep hey hs
    ·rw[he]at hey
     rw[hB hv (d:=d) (g:=g) (by rw[he];rfl)]
     exact⟨hey,.inr ⟨d,g,by rw[ho];rfl,rfl⟩,h.holds ho⟩
    ·rw[he]at hey
     rw[hB hv (d:=d) (g:=g) (by rw[he];rfl)]
     exact⟨hey,.inr ⟨d,g,by rw[ho];rfl,rfl⟩,h.holds ho⟩
   ·rw[List.getElem?_append_right hge,List.getElem?_map]at hix
    obtain⟨s,hs,rfl⟩:=map_some hix
    show Rep w _ _ s
    have:=hvr _ s hs
    rw[Array.getD_eq_getD_getElem?]at this ⊢
    rw[Array.getElem?_append_right (by simp;omega)]
    simp only[Array.size_map,<- hlen]
    exact this
  ·obtain⟨_,u,d,g,cs,hu,hiu,ho⟩:=himp hix hi
   obtain⟨_,v,d',g',cs',hv,hiv,ho'⟩:=himp hjy hj
   rw[hB hu hiu,hB hv hiv]at e
   obtain⟨rfl,rfl⟩:=h.inj d g d' g' (by rw[ho];rfl) (by rw[ho'];rfl) e
   exact impIds_distinct hdi hu hv hiu hiv
  ·rintro e w' ⟨v,rfl,hr,he,hex⟩
   refine⟨v,rfl,β,?_⟩
   have hJ : ∀b,impB (ars++caps.map Arg.sv) B b ↔ ∃ (i:Nat) (v:TV) (d g:Nat) (cs:List SV),(args.toList.map st.eval)[i]?=some v/\v.id=some (d,g)/\st.obj d g=some cs/\β d g=b:=by
    intro b
    constructor
    ·rintro⟨i,x,hix,hi,rfl⟩
     obtain⟨_,u,d,g,cs,hu,hiu,ho⟩:=himp hix hi
     exact⟨i,u,d,g,cs,hu,hiu,ho,(hB hu hiu).symm⟩
    ·rintro⟨i,u,d,g,cs,hu,hiu,ho,rfl⟩
     have hlt:i<ars.length:=by
      rw[hl]
      rcases Nat.lt_or_ge i (args.toList.map st.eval).length with h|h
      ·exact h
      ·rw[List.getElem?_eq_none h]at hu;cases hu
     refine⟨i,ars[i],by rw[List.getElem?_append_left hlt,List.getElem?_eq_getElem hlt],?_,hB hu hiu⟩
     obtain⟨v',hv',hcase⟩:=hget i ars[i] (List.getElem?_eq_getElem hlt)
     rw[hu]at hv'
     cases hv'
     rcases hcase with⟨s,_,hs⟩|⟨_,_,_,_,e,_⟩|⟨_,_,_,_,_,_,_,e,_⟩
     ·cases u<;>simp[TV.id,TV.toSV]at hiu hs
     ·rw[e];rfl
     ·rw[e];rfl
   have hmem : ∀d g,(∃ (i:Nat) (v:TV),(args.toList.map st.eval)[i]?=some v/\v.id=some (d,g))->(st.obj d g).isSome=true:=by
    rintro d g ⟨i,v,hv,hi⟩
    have hlt:i<ars.length:=by
     rw[hl]
     rcases Nat.lt_or_ge i (args.toList.map st.eval).length with h|h
     ·exact h
     ·rw[List.getElem?_eq_none h]at hv;cases hv
    obtain⟨v',hv',hcase⟩:=hget i ars[i] (List.getElem?_eq_getElem hlt)
    rw[hv]at hv'
    cases hv'
    rcases hcase with⟨s,_,hs⟩|⟨d',g',cs,rfl,_,ho⟩|⟨d',g',cs,_,_,_,rfl,_,ho⟩
    ·cases v<;>simp[TV.id,TV.toSV]at hi hs
    ·simp only[TV.id,Option.some.injEq,Prod.mk.injEq]at hi
     obtain⟨rfl,rfl⟩:=hi
     rw[ho];rfl
    ·simp only[TV.id,Option.some.injEq,Prod.mk.injEq]at hi
     obtain⟨rfl,rfl⟩:=hi
     rw[ho];rfl
   have hrel:Rel w0 F I Z N β st' a w':=by
    refine h.after he (fun b hb => ?_) x1 x2 (expAll_hob hx).1 (expAll_hob hx).2.1 (expAll_hob hx).2.2.1 (expAll_hob hx).2.2.2 (fun d g => ?_) (fun d g cs ho => ?_)
    ·obtain⟨i,u,d,g,cs,hu,hiu,ho,e⟩:=(hJ b).1 hb
     exact⟨d,g,by rw[ho];rfl,e,impArgs_lt has hu hiu⟩
    ·by_cases hin : ∃ (i:Nat) (v:TV),(args.toList.map st.eval)[i]?=some v/\v.id=some (d,g)
     ·obtain⟨i,v,hv,hi⟩:=hin
      obtain⟨cs,_,ho⟩:=x4 i v d g hv hi
      rw[ho,hmem d g ⟨i,v,hv,hi⟩]
      rfl
     ·rw[x3 d g (fun i v hv hi=>hin ⟨i,v,hv,hi⟩)]
    ·by_cases hin : ∃ (i:Nat) (v:TV),(args.toList.map st.eval)[i]?=some v/\v.id=some (d,g)
     ·obtain⟨i,v,hv,hi⟩:=hin
      obtain⟨cs',hex',ho'⟩:=x4 i v d g hv hi
      rw[ho]at ho'
      cases ho'
      have hi':i<args.toList.length:=by
       rcases Nat.lt_or_ge i (exps.take args.toList.length).length with h|h
       ·rw[List.length_take]at h;omega
       ·rw[List.getElem?_eq_none h]at hex';cases hex'
      rw[List.getElem?_take_of_lt hi']at hex'
      left
      obtain⟨cs0,hcs0⟩:=Option.isSome_iff_exists.1 (hmem d g ⟨i,v,hv,hi⟩)
      refine⟨(hJ _).2 ⟨i,v,d,g,cs0,hv,hi,hcs0,rfl⟩,?_⟩
      rw[<- hB hv hi]
      exact hex i cs hex'
     ·right
      rw[x3 d g (fun i v hv hi=>hin ⟨i,v,hv,hi⟩)]at ho
      refine⟨fun hj => ?_,ho⟩
      obtain⟨i,u,d',g',cs',hu,hiu,ho',e⟩:=(hJ _).1 hj
      obtain⟨rfl,rfl⟩:=h.inj d' g' d g (by rw[ho'];rfl) (by rw[ho];rfl) e
      exact hin ⟨i,u,hu,hiu⟩
   refine hrel.putO (t := .sv s) hd ?_ (fun d g e=>by simp[TV.id]at e)
   refine Rep.mono (w:=w') (fun _ _ _=>rfl) (fun b _ hm => ?_) hr
   rcases hm with hf'|⟨d,g,h1,h2⟩
   ·exact .inl hf'
   ·refine .inr ⟨d,g,?_,h2⟩
    by_cases hin : ∃ (i:Nat) (v:TV),(args.toList.map st.eval)[i]?=some v/\v.id=some (d,g)
    ·exact hmem d g hin
    ·rw[x3 d g (fun i v hv hi=>hin ⟨i,v,hv,hi⟩)]at h1
     exact h1
theorem sameA_eq : ∀ {a b:Option Addr},sameA a b=true->a=b:=by
 intro a b h
 unfold sameA at h
 split at h
 ·rw[Bool.and_eq_true]at h
  rw[Nat.eq_of_beq_eq_true h.1,Nat.eq_of_beq_eq_true h.2]
 ·cases h
theorem sameV_eq {a b:Value} (h:sameV a b=true):a=b:=by
 unfold sameV at h
 split at h
 ·rw[sameA_eq h]
 ·rw[Bool.and_eq_true,Bool.and_eq_true]at h
  rw[sameA_eq h.1,Nat.eq_of_beq_eq_true h.2.1,Nat.eq_of_beq_eq_true h.2.2]
 ·cases h
mutual
theorem sameSV_eq : ∀ {a b:SV},sameSV a b=true->a=b
 | .bool _,.bool _,h=>by unfold sameSV at h;rw[of_decide_eq_true h]
 | .int _ _,.int _ _,h=>by
  unfold sameSV at h
  rw[Bool.and_eq_true]at h
  rw[of_decide_eq_true h.1,of_decide_eq_true h.2]
 | .str a,.str b,h=>by
  unfold sameSV at h
  have:=of_decide_eq_true h
  congr 1
  exact ByteArray.ext (Array.ext' this)
 | .sl _ _,.sl _ _,h=>by
  unfold sameSV at h
  rw[Bool.and_eq_true]at h
  rw[of_decide_eq_true h.1,sameL_eq h.2]
 | .agg _,.agg _,h=>by
  unfold sameSV at h
  rw[sameL_eq h]
 | .mem _,.mem _,h=>by
  unfold sameSV at h
  rw[sameL_eq h]
 | .bool _,.int _ _,h | .bool _,.str _,h | .bool _,.sl _ _,h | .bool _,.agg _,h | .bool _,.tup _,h | .bool _,.mem _,h | .bool _,.fn _ _,h | .bool _,.con _,h=>by unfold sameSV at h;cases h
 | .int _ _,.bool _,h | .int _ _,.str _,h | .int _ _,.sl _ _,h | .int _ _,.agg _,h | .int _ _,.tup _,h | .int _ _,.mem _,h | .int _ _,.fn _ _,h | .int _ _,.con _,h=>by unfold sameSV at h;cases h
 | .str _,.bool _,h | .str _,.int _ _,h | .str _,.sl _ _,h | .str _,.agg _,h | .str _,.tup _,h | .str _,.mem _,h | .str _,.fn _ _,h | .str _,.con _,h=>by unfold sameSV at h;cases h
 | .sl _ _,.bool _,h | .sl _ _,.int _ _,h | .sl _ _,.str _,h | .sl _ _,.agg _,h | .sl _ _,.tup _,h | .sl _ _,.mem _,h | .sl _ _,.fn _ _,h | .sl _ _,.con _,h=>by unfold sameSV at h;cases h
 | .agg _,.bool _,h | .agg _,.int _ _,h | .agg _,.str _,h | .agg _,.sl _ _,h | .agg _,.tup _,h | .agg _,.mem _,h | .agg _,.fn _ _,h | .agg _,.con _,h=>by unfold sameSV at h;cases h
 | .mem _,.bool _,h | .mem _,.int _ _,h | .mem _,.str _,h | .mem _,.sl _ _,h | .mem _,.agg _,h | .mem _,.tup _,h | .mem _,.fn _ _,h | .mem _,.con _,h=>by unfold sameSV at h;cases h
 | .con a,.con b,h=>by
  unfold sameSV at h
  rw[sameV_eq h]
 | .con _,.bool _,h | .con _,.int _ _,h | .con _,.str _,h | .con _,.sl _ _,h | .con _,.agg _,h | .con _,.tup _,h | .con _,.mem _,h | .con _,.fn _ _,h=>by unfold sameSV at h;cases h
 | .tup _,_,h | .fn _ _,_,h=>by unfold sameSV at h;cases h
theorem sameL_eq : ∀ {a b:List SV},sameL a b=true->a=b
 | [],[],_=>rfl
 |a::r,b::s,h=>by
  unfold sameL at h
  rw[Bool.and_eq_true]at h
  rw[sameSV_eq h.1,sameL_eq h.2]
 | [],_::_,h|_::_,[],h=>by unfold sameL at h;cases h
end
theorem set_same {st:St} {d g:Nat} {cs:List SV} (h:st.obj d g=some cs):st.set d g cs=st:=by
 unfold St.set
 cases st
 congr 1
 funext d' g'
 split
 ·rename_i e
  rw[e.1,e.2]
  exact h.symm
 ·rfl
theorem allSV_cons {x:TV} {r:List TV} {ss:List SV} (h:allSV (x::r)=some ss) : ∃s l,x.toSV=some s/\allSV r=some l/\ss=s::l:=by
 unfold allSV at h
 split at h
 ·rename_i s l h1 h2
  cases h
  exact⟨s,l,h1,h2,rfl⟩
 ·cases h
theorem sv_impIds : ∀ {r:List TV} {ss:List SV},allSV r=some ss->impIds r=[]
 | [],_,_=>rfl
 |x::r,ss,h=>by
  obtain⟨s,l,h1,h2,_⟩:=allSV_cons h
  cases x<;>first|(simp only[impIds];exact sv_impIds h2)|cases h1
theorem sv_impArgs {st:St} : ∀ {r:List TV} {ss:List SV},allSV r=some ss->impArgs st r=some (ss.map Arg.sv)
 | [],_,h=>by cases h;rfl
 |x::r,ss,h=>by
  obtain⟨s,l,h1,h2,rfl⟩:=allSV_cons h
  unfold impArgs
  rw[sv_impArgs h2]
  cases x<;>first|(cases h1;rfl)|cases h1
theorem sv_expAll {st:St} : ∀ {r:List TV} {ss:List SV} {e:List (Option (List SV))},allSV r=some ss->e.all Option.isNone=true->e.length=r.length->expAll st r e=some st
 | [],_,e,_,_,hl=>by
  cases e with
  |nil=>rfl
  |cons=>simp at hl
 |x::r,ss,e,h,ha,hl=>by
  obtain⟨s,l,h1,h2,rfl⟩:=allSV_cons h
  cases e with
  |nil=>simp at hl
  |cons y e=>
   rw[List.all_cons,Bool.and_eq_true]at ha
   cases y with
   |some y=>exact absurd ha.1 (by simp)
   |none=>
    have:=sv_expAll (st:=st) h2 ha.2 (by simpa using hl)
    cases x<;>first|exact this|cases h1
theorem ro_goes (h:Rel w0 F I Z N β st a w) {call:Callf} (hcall:CallOk P Z.gl call) {mu:FuncId->Bool} {g:FuncId} {caps:List SV} {f:Operand} {args:Array Operand} {tys:Array TypeId} {dst:Option Nat} {st':St} (hd : ∀d,dst=some d->d<N)
  (hf:st.eval f = .sv (.fn g caps)) (hs:roCall call mu dst g caps (args.toList.map st.eval) st=some st') (ty:TypeId) (pos:String) (af:Array Edge) (gd:Option (Nat×Bool)) :
  Goes P a ⟨dst,.call { callee := .value f,args:=args,argTypes:=tys },ty,pos,af,gd⟩ w (To w0 F I Z N st'):=by
 have hlen:(args.toList.map st.eval).length=args.toList.length:=List.length_map _
 generalize hvs:args.toList.map st.eval=vs at hs hlen
 unfold roCall at hs
 split at hs
 ·rename_i d g' r
  split at hs
  ·cases hs
  rename_i hnH
  split at hs
  ·rename_i cs ss ho hss
   split at hs
   ·split at hs
    ·rename_i s exps hc
     split at hs
     ·rename_i cs' e he
      split at hs
      ·rename_i hk
       cases hs
       rw[Bool.and_eq_true,Bool.and_eq_true]at hk
       obtain⟨hk1,hk2,hk3⟩:=hk
       have hcs:=sameL_eq hk1
       subst hcs
       have h1:impArgs st (args.toList.map st.eval)=some (.imp cs'::ss.map Arg.sv):=by
        rw[hvs]
        unfold impArgs
        rw[sv_impArgs hss]
        simp only[ho]
        rw[if_neg hnH]
       have h2:distinct (impIds (args.toList.map st.eval))=true:=by
        rw[hvs]
        show distinct ((d,g')::impIds r)=true
        rw[sv_impIds hss]
        rfl
       have h3:expAll st (args.toList.map st.eval) (exps.take args.toList.length)=some st:=by
        rw[hvs,<- hlen,List.length_cons,he]
        show expAll (st.set d g' cs') r e=some st
        rw[set_same ho]
        exact sv_expAll hss hk2 (of_decide_eq_true hk3)
       have h4:call g ((.imp cs'::ss.map Arg.sv)++caps.map Arg.sv)=some (.sv s,exps):=by
        rw[List.cons_append,<- List.map_append]
        exact hc
       exact import_goes h hcall hd hf h2 h1 h4 h3 ty pos af gd
      ·cases hs
     ·cases hs
    ·cases hs
   ·cases hs
  ·cases hs
 ·cases hs
theorem in_vals (h:Rel w0 F I Z N β st a w) {args:Array Operand} {caps:List SV} {vs:Array Value} (hvl:vs.size=caps.length) (hvr : ∀ (i:Nat) (s:SV),caps[i]?=some s->Rep w (Mut F β st) (vs.getD i undef) s) :
  (args.map a.eval++vs).size=(args.toList.map st.eval++caps.map TV.sv).length /\ ∀ (i:Nat) (v:TV),(args.toList.map st.eval++caps.map TV.sv)[i]?=some v->RepT β w (Mut F β st) ((args.map a.eval++vs).getD i undef) v /\ ∀d g,v.id=some (d,g)->g<st.gen d:=by
 refine⟨by simp[hvl],fun i v hv => ?_⟩
 rcases Nat.lt_or_ge i args.size with hi|hi
 ·rw[List.getElem?_append_left (by simpa using hi),List.getElem?_map]at hv
  obtain⟨x,hx,rfl⟩:=map_some hv
  rw[Array.getD_eq_getD_getElem?,Array.getElem?_append_left (by simpa using hi),Array.getElem?_map]
  rw[Array.getElem?_toList]at hx
  rw[hx]
  exact⟨h.eval x,fun d g e=>h.evalId e⟩
 ·rw[List.getElem?_append_right (by simpa using hi),List.getElem?_map]at hv
  obtain⟨s,hs,rfl⟩:=map_some hv
  rw[Array.getD_eq_getD_getElem?,Array.getElem?_append_right (by simpa using hi)]
  have:=hvr _ s hs
  rw[Array.getD_eq_getD_getElem?]at this
  simp only[Array.size_map]
  simp only[List.length_map,Array.length_toList]at this
  exact⟨this,fun d g e=>by simp[TV.id]at e⟩
theorem in_goes (h:Rel w0 F I Z N β st a w) {call:Callf} (hcall:InOk P Z.gl call) {g:FuncId} {caps:List SV} {f:Operand} {args:Array Operand} {tys:Array TypeId} {dst:Option Nat} {st':St} (hd : ∀d,dst=some d->d<N)
  (hf:st.eval f = .sv (.fn g caps)) (hs:inCall call dst g caps (args.toList.map st.eval) st=some st') (ty:TypeId) (pos:String) (af:Array Edge) (gd:Option (Nat×Bool)) :
  Goes P a ⟨dst,.call { callee := .value f,args:=args,argTypes:=tys },ty,pos,af,gd⟩ w (To w0 F I Z N st'):=by
 unfold inCall at hs
 split at hs
 ·rename_i s1 r exps hc
  cases hs
  have hfv:=h.eval f
  rw[hf]at hfv
  generalize hfe:a.eval f=fv at hfv
  cases hfv with
  |fn _ vs _ hvl hvr=>
   obtain⟨h1,h2⟩:=in_vals h (args:=args) hvl hvr
   refine calls_goes hfe ((hcall _ _ _ _ _ _ hc w0 F I Z N β a w _ rfl h h1 h2).mono ?_)
   rintro e w' ⟨v,rfl,_,β',hr,ht,hid⟩
   exact⟨v,rfl,β',hr.putO hd ht hid⟩
 ·cases hs
theorem look_goes (h:Rel w0 F I Z N β st a w) {call:Callf} (hcall:InOk P Z.gl call) {g:FuncId} {caps:List SV} {f:Operand} {args:Array Operand} {tys:Array TypeId} {dst:Option Nat} {st':St} (hd : ∀d,dst=some d->d<N)
  (hf:st.eval f = .sv (.fn g caps)) (hs:inLook call dst g caps (args.toList.map st.eval) st=some st') (ty:TypeId) (pos:String) (af:Array Edge) (gd:Option (Nat×Bool)) :
  Goes P a ⟨dst,.call { callee := .value f,args:=args,argTypes:=tys },ty,pos,af,gd⟩ w (To w0 F I Z N st'):=by
 unfold inLook at hs
 split at hs
 ·rename_i s exps hc
  cases hs
  have hfv:=h.eval f
  rw[hf]at hfv
  generalize hfe:a.eval f=fv at hfv
  cases hfv with
  |fn _ vs _ hvl hvr=>
   obtain⟨h1,h2⟩:=in_vals h (args:=args) hvl hvr
   refine calls_goes hfe ((hcall _ _ _ _ _ _ hc w0 F I Z N β a w _ rfl h h1 h2).mono ?_)
   rintro e w' ⟨v,rfl,_,β',hr,ht⟩
   exact⟨v,rfl,β',hr.putO (t := .sv s) hd ht (fun d g e=>by simp[TV.id]at e)⟩
 ·cases hs
theorem acallS_goes (h:Rel w0 F I Z N β st a w) {call:Callf} (hcall:CallAll P Z.gl call) {mu:FuncId->Bool} {f:Operand} {args:Array Operand} {tys:Array TypeId} {dst:Option Nat} {st':St} (hd : ∀d,dst=some d->d<N)
  (hs:acallS call mu dst f args.toList st=some st') (ty:TypeId) (pos:String) (af:Array Edge) (gd:Option (Nat×Bool)) :
  Goes P a ⟨dst,.call { callee := .value f,args:=args,argTypes:=tys },ty,pos,af,gd⟩ w (To w0 F I Z N st'):=by
 unfold acallS at hs
 split at hs
 ·rename_i g caps hf
  split at hs
  ·rename_i ss hss
   exact pure_goes h hcall.1 hd hf hss hs ty pos af gd
  ·split at hs
   ·exact in_goes h hcall.2.1 hd hf hs ty pos af gd
   ·cases hs
 ·cases hs
theorem bor_goes (h:Rel w0 F I Z N β st a w) {call:Callf} (hcall:CallAll P Z.gl call) {mu:FuncId->Bool} {g:FuncId} {caps ss:List SV} {f:Operand} {args:Array Operand} {tys:Array TypeId} {dst:Option Nat} {soft:Bool} {st':St} (hd : ∀d,dst=some d->d<N)
  (hf:st.eval f = .sv (.fn g caps)) (hss:allSV (args.toList.map st.eval)=some ss) (hs:borCall call mu soft dst g (ss++caps) st=some st') (ty:TypeId) (pos:String) (af:Array Edge) (gd:Option (Nat×Bool)) :
  Goes P a ⟨dst,.call { callee := .value f,args:=args,argTypes:=tys },ty,pos,af,gd⟩ w (To w0 F I Z N st'):=by
 unfold borCall at hs
 split at hs
 ·unfold inCall at hs
  split at hs
  ·rename_i s1 r exps hc
   cases hs
   rw[List.map_nil,List.append_nil]at hc
   obtain⟨hl,hrep⟩:=allSV_rep h hss
   have hsz:args.size=ss.length:=by rw[<- hl];simp
   have hfv:=h.eval f
   rw[hf]at hfv
   generalize hfe:a.eval f=fv at hfv
   cases hfv with
   |fn _ vs _ hvl hvr=>
    refine calls_goes hfe ((hcall.2.1 _ _ _ _ _ _ hc w0 F I Z N β a w _ rfl h (by simp[hvl,hsz]) (fun i v hv => ?_)).mono ?_)
    ·rw[List.getElem?_map]at hv
     obtain⟨s,hsx,rfl⟩:=map_some hv
     refine⟨?_,fun d g e=>by simp[TV.id]at e⟩
     show Rep w _ _ s
     rw[Array.getD_eq_getD_getElem?]
     rcases Nat.lt_or_ge i ss.length with hi|hi
     ·rw[List.getElem?_append_left hi]at hsx
      obtain⟨v,hv,hr⟩:=hrep i s hsx
      rw[Array.getElem?_append_left (by simpa[<- hl]using hi),<- Array.getElem?_toList,Array.toList_map,hv]
      exact hr
     ·rw[List.getElem?_append_right hi]at hsx
      have:=hvr _ s hsx
      rw[Array.getD_eq_getD_getElem?]at this
      rw[Array.getElem?_append_right (by simp;omega)]
      simp only[Array.size_map]
      rw[hsz]
      exact this
    ·rintro e w' ⟨v,rfl,_,β',hr,ht,hid⟩
     exact⟨v,rfl,β',hr.putO hd ht hid⟩
  ·cases hs
 ·exact pure_goes h hcall.1 hd hf hss hs ty pos af gd
theorem acall_goes (h:Rel w0 F I Z N β st a w) {call:Callf} (hcall:CallAll P Z.gl call) {mu:FuncId->Bool} {f:Operand} {args:Array Operand} {tys:Array TypeId} {dst:Option Nat} {soft:Bool} {st':St} (hd : ∀d,dst=some d->d<N)
  (hs:acall call mu soft dst f args.toList st=some st') (ty:TypeId) (pos:String) (af:Array Edge) (gd:Option (Nat×Bool)) :
  Goes P a ⟨dst,.call { callee := .value f,args:=args,argTypes:=tys },ty,pos,af,gd⟩ w (To w0 F I Z N st'):=by
 unfold acall at hs
 split at hs
 ·rename_i g caps hf
  split at hs
  ·rename_i ss hss
   exact bor_goes h hcall hd hf hss hs ty pos af gd
  ·split at hs
   ·split at hs
    ·exact look_goes h hcall.2.1 hd hf hs ty pos af gd
    ·exact ro_goes h hcall.1 hd hf hs ty pos af gd
   ·split at hs
    ·split at hs
     ·exact in_goes h hcall.2.1 hd hf hs ty pos af gd
     split at hs
     ·rename_i hdi
      split at hs
      ·rename_i ars has
       split at hs
       ·rename_i r exps hc
        split at hs
        ·rename_i s1 hx
         split at hs
         ·rename_i s
          cases hs
          exact import_goes h hcall.1 hd hf hdi has hc hx ty pos af gd
         ·cases hs
        ·cases hs
       ·cases hs
      ·cases hs
     ·cases hs
    ·split at hs
     ·rename_i s1 hfz
      split at hs
      ·rename_i ss hss
       have h':=h.frzAll hfz
       have hf':s1.eval f = .sv (.fn g caps):=by
        have key : ∀ {vs:List TV} {s0 s2:St},frzAll s0 vs=some s2 -> ∀t x,s0.tmp t = .sv x->s2.tmp t = .sv x:=by
         intro vs
         induction vs with
         |nil=>intro s0 s2 e t x hx;cases e;exact hx
         |cons v r ih=>
          intro s0 s2 e t x hx
          have one : ∀ {d g:Nat} {s3:St},s0.frz d g=some s3->s3.tmp t = .sv x:=by
           intro d g s3 hz
           unfold St.frz at hz
           split at hz
           ·cases hz
           ·split at hz
            ·cases hz
             show (s0.tmp t).frz d g _=_
             rw[hx]
             rfl
            ·cases hz
          unfold frzAll at e
          split at e
          ·split at e
           ·split at e
            ·rename_i hz;exact ih e t x (one hz)
            ·cases e
           ·exact ih e t x hx
          ·split at e
           ·split at e
            ·rename_i hz;exact ih e t x (one hz)
            ·cases e
           ·exact ih e t x hx
          ·exact ih e t x hx
        cases f with
        |tmp t=>exact key hfz t _ hf
        |_=>exact hf
       exact bor_goes h' hcall hd hf' hss hs ty pos af gd
      ·cases hs
     ·cases hs
 ·cases hs
end
end Go.Ev
namespace Go.Ev
open Go.RowKit
section
variable {P:Program} {w0 w:World} {F I:Nat->Prop} {Z:Zy} {N:Nat} {β:Nat->Nat->Nat} {st:St} {a:Act}
theorem step_goes (h:Rel w0 F I Z N β st a w) {call:Callf} (hcall:CallAll P Z.gl call) {mu:FuncId->Bool} {soft:Bool} {dst:Option Nat} {op:Op} {st':St} (hd : ∀d,dst=some d->d<N)
  (hs:step P call mu soft dst op st=some st') (ty:TypeId) (pos:String) (af:Array Edge) (gd:Option (Nat×Bool)):Goes P a ⟨dst,op,ty,pos,af,gd⟩ w (To w0 F I Z N st'):=by
 unfold step at hs
 split at hs
 ·exact acall_goes h hcall hd hs ty pos af gd
 ·rename_i args tys
  split at hs
  ·rename_i s x t t' ha ht
   split at hs
   ·rename_i htt
    subst htt
    have hargs:args = #[s,x]:=by apply Array.ext';simpa using ha
    have htys:tys = #[t,t]:=by apply Array.ext';simpa using ht
    subst hargs htys
    cases dst with
    |none=>unfold append at hs;split at hs<;>first|(rename_i e;cases e;done)|cases hs|(simp at *)
    |some d=>exact(append_runs h (hd d rfl) hs ty pos af gd).goes
   ·have hargs:args = #[s,x]:=by apply Array.ext';simpa using ha
    have htys:tys = #[t,t']:=by apply Array.ext';simpa using ht
    subst hargs htys
    exact(appendZ_runs h hd hs ty pos af gd).goes
  ·cases hs
 ·rename_i args tys
  split at hs
  ·rename_i x t ha ht
   have hargs:args = #[x]:=by apply Array.ext';simpa using ha
   have htys:tys = #[t]:=by apply Array.ext';simpa using ht
   subst hargs htys
   split at hs
   ·cases hs
   ·rename_i hn
    cases dst with
    |some d=>simp at hn
    |none=>exact(clear_runs h hs ty pos af gd).goes
  ·cases hs
 ·rename_i args tys
  split at hs
  ·rename_i s x t ts ha ht
   have hargs:args = #[s,x]:=by apply Array.ext';simpa using ha
   have htys:tys=(t::ts).toArray:=by apply Array.ext';simpa using ht
   subst hargs htys
   exact(copy_runs h hd hs ts ty pos af gd).goes
  ·cases hs
 ·split at hs
  ·cases hs
  ·rename_i hn
   cases dst with
   |some d=>simp at hn
   |none=>exact(store_runs h hs ty pos af gd).goes
 ·cases dst with
  |none=>simp[hard]at hs
  |some d=>
   simp only[hard]at hs
   split at hs
   ·rename_i cs hz
    cases hs
    exact(alloc_runs h (hd d rfl) hz ty pos af gd).goes
   ·cases hs
 ·cases dst with
  |none=>simp[hard]at hs
  |some d=>
   simp only[hard]at hs
   split at hs
   ·rename_i s hx
    split at hs
    ·rename_i h1
     cases hs
     exact(box_runs h (hd d rfl) hx h1 ty pos af gd).goes
    ·split at hs
     ·rename_i ts hts
      cases hs
      exact(boxH_runs h (hd d rfl) hx hts ty pos af gd).goes
     ·cases hs
   ·split at hs
    ·rename_i d' g' hx
     cases hs
     exact(boxP_runs h (hd d rfl) hx ty pos af gd).goes
    ·cases hs
 ·rename_i t n parts
  split at hs
  ·split at hs
   ·rename_i size cs hl
    cases hs
    obtain⟨us,e,hrun,hsz,hlen,hall⟩:=lit_run h hl dst ty pos af gd
    refine Runs.goes ⟨_,.inl ⟨_,hrun,β,?_⟩⟩
    have he:Ext (fun _=>False) w (w.alloc (.cells us e)):=(Ext.refl _ w).alloc _
    refine(h.ext0 he).putO (t := .sv (.sl n cs)) hd ?_ (fun d g e=>by simp[TV.id]at e)
    have hcell : ∀ (i:Nat) (s:SV),cs[i]?=some s->us[i]?=some (us.getD i undef)/\Rep w (Mut F β st) (us.getD i undef) s:=by
     intro i s hi
     obtain⟨_,v,hv,hr⟩:=hall i s hi
     rw[Array.getD_eq_getD_getElem?,hv]
     exact⟨rfl,hr⟩
    refine Rep.sl _ _ _ (Nat.le_refl _) cs (fun i=>us.getD i undef) (fun hm => ?_) (fun i s hi => ?_) (fun i s hi => ?_)
    ·exact absurd (h.mut_lt hm) (Nat.lt_irrefl _)
    ·rw[add_mk,Nat.zero_add,World.cell?_alloc_new]
     exact(hcell i s hi).1
    ·exact Rep.mono (fun p hp _=>World.cell?_alloc_lt w _ p hp) (fun _ _ hm=>hm) (hcell i s hi).2
   ·cases hs
  ·cases dst with
   |none=>simp[hard]at hs
   |some d=>
    simp only[hard]at hs
    split at hs
    ·rename_i size cs hl
     cases hs
     obtain⟨us,e,hrun,hsz,hlen,hall⟩:=lit_run h hl (some d) ty pos af gd
     refine Runs.goes ⟨_,.inl ⟨_,hrun,_,h.new (hd d rfl) hall ⟨n,us,e,by rw[upd_self],Nat.le_refl _,by rw[upd_self];exact heap_alloc_new w _,by omega⟩ (fun d' g' e' => ?_)⟩⟩
     simp only[TV.id,Option.some.injEq,Prod.mk.injEq]at e'
     exact⟨e'.1.symm,e'.2.symm⟩
    ·split at hs
     ·rename_i s1 hz
      split at hs
      ·rename_i size cs hl
       cases hs
       have h':=h.frzAll hz
       obtain⟨us,e,hrun,hsz,hlen,hall⟩:=lit_run h' hl (some d) ty pos af gd
       refine Runs.goes ⟨_,.inl ⟨_,hrun,_,h'.new (hd d rfl) hall ⟨n,us,e,by rw[upd_self],Nat.le_refl _,by rw[upd_self];exact heap_alloc_new w _,by omega⟩ (fun d' g' e' => ?_)⟩⟩
       simp only[TV.id,Option.some.injEq,Prod.mk.injEq]at e'
       exact⟨e'.1.symm,e'.2.symm⟩
      ·cases hs
     ·cases hs
 ·rename_i t l c
  cases dst with
  |none=>simp[hard]at hs
  |some d=>
   simp only[hard]at hs
   split at hs
   ·rename_i e size bytes he
    split at hs
    ·rename_i n m z hl hc hz
     split at hs
     ·rename_i hcond
      obtain⟨rfl,hn,hb,hzl,_⟩:=hcond
      cases hs
      exact(make_runs h (hd d rfl) he hl hc hz hn hb hzl ty pos af gd).goes
     ·cases hs
    ·cases hs
   ·cases hs
 ·split at hs
  ·rename_i v hv
   cases hs
   exact(val_runs h (o:=⟨dst,op,ty,pos,af,gd⟩) hd hv).goes
  ·split at hs
   ·cases hs
   ·unfold frzV at hs
    split at hs
    ·rename_i t parts _ _ _ _ _ _ _ _ _ _
     split at hs
     ·rename_i s1 hz
      split at hs
      ·rename_i v hv
       cases hs
       exact(val_runs (h.frzAll hz) (o:=⟨dst,.build t parts,ty,pos,af,gd⟩) hd hv).goes
      ·cases hs
     ·cases hs
    ·rename_i f first captured _ _ _ _ _ _ _ _ _ _
     split at hs
     ·rename_i s1 hz
      split at hs
      ·rename_i v hv
       cases hs
       exact(val_runs (h.frzAll hz) (o:=⟨dst,.makeFunc f first captured,ty,pos,af,gd⟩) hd hv).goes
      ·cases hs
     ·cases hs
    ·rename_i s t x _ _ _ _ _ _ _ _ _ _
     split at hs
     ·rename_i s1 hz
      split at hs
      ·rename_i v hv
       cases hs
       exact(val_runs (h.frzAll hz) (o:=⟨dst,.convert s t x,ty,pos,af,gd⟩) hd hv).goes
      ·cases hs
     ·cases hs
    ·cases hs
theorem stepX_goes (h:Rel w0 F I Z N β st a w) {o:Oper} {st':St} (hd : ∀d,o.dst=some d->d<N) (hs:stepX P o st=some st') (hsp:spcB o=true):Goes P a o w (To w0 F I Z N st'):=by
 obtain⟨dst,op,ty,pos,af,gd⟩:=o
 unfold stepX at hs
 split at hs
 ·rename_i v hv
  cases hs
  unfold valX at hv
  split at hv
  ·rename_i t n parts hop
   dsimp only at hop
   subst hop
   unfold spcB empB appB bldB at hsp
   simp only[Bool.and_eq_true,Bool.or_false]at hsp
   have hn:n=0:=Nat.eq_of_beq_eq_true hsp.1.1
   subst hn
   split at hv
   ·rename_i hl
    cases hv
    obtain⟨⟨size,cs⟩,hl⟩:=Option.isSome_iff_exists.1 hl
    obtain⟨us,e,hrun,hsz,hlen,hall⟩:=lit_run h hl dst ty pos af gd
    refine Runs.goes ⟨_,.inl ⟨_,hrun,β,?_⟩⟩
    have he:Ext (fun _=>False) w (w.alloc (.cells us e)):=(Ext.refl _ w).alloc _
    exact(h.ext0 he).putO (t := .emp) hd ⟨_,rfl⟩ (fun d g e=>by simp[TV.id]at e)
   ·cases hv
  ·rename_i args tys hop
   dsimp only at hop
   subst hop
   split at hv
   ·rename_i s x t t' ha ht
    split at hv
    ·rename_i htt
     subst htt
     have hargs:args = #[s,x]:=by apply Array.ext';simpa using ha
     have htys:tys = #[t,t]:=by apply Array.ext';simpa using ht
     subst hargs htys
     split at hv
     ·rename_i e size bytes he hes
      obtain⟨hu,i,hi,his,hib⟩:=elm_parts he
      subst his
      split at hv
      ·rename_i m new hm
       split at hv
       ·rename_i hc
        cases hv
        obtain⟨hlen,hby,hsz,hzk,h1,hmb⟩:=hc
        obtain⟨i',z,hi',hzz,hzs⟩:=zok_parts hzk
        rw[hi]at hi'
        cases hi'
        obtain⟨A,cap,vals,hx,hvl,hA,hone,hrep⟩:=more_sound h hm hlen h1
        have hsv:=h.eval s
        rw[hes]at hsv
        obtain⟨q,hsv⟩:=hsv
        by_cases hm0:m=0
        ·subst hm0
         refine Runs.goes ⟨w,.inl ⟨a.eval s,run_append_op ?_,β,?_⟩⟩
         ·rw[hsv,hx]
          exact append_none hu hi (Nat.le_refl 0)
         ·have hnew:new=[]:=List.eq_nil_of_length_eq_zero (by rw[hlen];simp)
          subst hnew
          exact h.putO (t := .sv (.sl 0 [])) hd (by rw[hsv];exact .sl0 _ _ _ (Nat.le_refl _)) (fun d g e=>by simp[TV.id]at e)
        ·have hpos:0<m*i.size:=Nat.mul_pos (by omega) hsz
         obtain⟨p,rfl,hcell⟩:=hA hpos
         have hbb:(0+m)*i.bytes<=140737488355328:=by
          have:(0+m)*i.bytes<=274877906944*128:=Nat.mul_le_mul (by omega) (by omega)
          omega
         have hr:=run_append_grow (P:=P) w t ty e i z hu hi hzz q 0 0 [] (by simp) (fun j u hj=>by simp at hj) p m cap vals hvl hcell (by omega) (by omega) (growslice_fits (by omega) hbb)
         have hdr:=h.world (w':=w.drew) rfl rfl rfl rfl
         rw[<- hsv,<- hx]at hr
         refine Runs.goes ⟨_,.inl ⟨_,run_append_op hr,β,?_⟩⟩
         generalize hus:([]:List Value).toArray++vals.toArray++Builtin.zeroCells z.cells (grownCap w (0+m) 0 e-(0+m))=us at *
         have hcell2 : ∀ (j:Nat) (s:SV),new[j]?=some s->us[j]?=some (us.getD j undef)/\Rep w.drew (Mut F β st) (us.getD j undef) s:=by
          intro j s hj
          obtain⟨u,hu',hr'⟩:=hrep j s hj
          have hjl:j<vals.length:=by
           rcases Nat.lt_or_ge j vals.length with h|h
           ·exact h
           ·rw[List.getElem?_eq_none h]at hu';cases hu'
          have:us[j]?=some u:=by
           rw[<- hus,Array.getElem?_append_left (by simp;omega),Array.getElem?_append_right (by simp)]
           simpa using hu'
          rw[Array.getD_eq_getD_getElem?,this]
          exact⟨rfl,Rep.drew hr'⟩
         have he:Ext (fun _=>False) w.drew (w.drew.alloc (.cells us e)):=(Ext.refl _ w.drew).alloc _
         have hcap:=grownCap_ge w (0+m) 0 e
         refine(hdr.ext0 he).putO (t := .sv (.sl m new)) hd ?_ (fun d g e=>by simp[TV.id]at e)
         show Rep (w.drew.alloc (.cells us e)) (Mut F β st) (Value.slice (some ⟨w.drew.heap.size,0,none⟩) (0+m) (grownCap w (0+m) 0 e)) (.sl m new)
         clear hus hr
         generalize grownCap w (0+m) 0 e=gc at *
         rw[Nat.zero_add]
         refine Rep.sl _ _ _ (by omega) new (fun i=>us.getD i undef) (fun hm => ?_) (fun i s hi => ?_) (fun i s hi => ?_)
         ·exact absurd (hdr.mut_lt hm) (Nat.lt_irrefl _)
         ·rw[add_mk,Nat.zero_add,World.cell?_alloc_new]
          exact(hcell2 i s hi).1
         ·exact Rep.mono (fun p hp _=>World.cell?_alloc_lt w.drew _ p hp) (fun _ _ hm=>hm) (hcell2 i s hi).2
       ·cases hv
      ·cases hv
     ·cases hv
    ·cases hv
   ·cases hv
  ·rename_i t ps hop
   dsimp only at hop
   subst hop
   exact(val_runs h (o:=⟨dst,.build t ps,ty,pos,af,gd⟩) hd hv).goes
  ·cases hv
 ·cases hs
theorem stepS_goes (h:Rel w0 F I Z N β st a w) {call:Callf} (hcall:CallAll P Z.gl call) {mu:FuncId->Bool} {soft:Bool} {ops:Array Oper} {dst:Option Nat} {op:Op} {st':St} (hd : ∀d,dst=some d->d<N)
  (hs:stepS P call mu soft ops dst op st=some st') (ty:TypeId) (pos:String) (af:Array Edge) (gd:Option (Nat×Bool)):Goes P a ⟨dst,op,ty,pos,af,gd⟩ w (To w0 F I Z N st'):=by
 unfold stepS at hs
 split at hs
 ·unfold stepV at hs
  split at hs
  ·exact acallS_goes h hcall hd hs ty pos af gd
  ·cases hs
 split at hs
 ·cases hs
 ·exact step_goes h hcall hd hs ty pos af gd
theorem wanted_rep {ops:Array Oper} {o:Oper} (h:Rel w0 F I Z N β st a w) {j:Nat} {want b:Bool} {t:Nat} (hg:o.guard=some (j,want)) (ht:(ops[j]?).bind (·.dst)=some t) (hb:st.tmp t = .sv (.bool b)) :
  Region.wanted o (yielded ops a.tmps)=(b==want):=by
 have hv:=h.tmps t
 rw[hb]at hv
 have hv:=rep_bool hv
 have hlt:a.tmps[t]?=some (.bool b):=by
  rw[Array.getD_eq_getD_getElem?]at hv
  cases hx:a.tmps[t]? with
  |none=>rw[hx]at hv;simp[undef]at hv
  |some x=>rw[hx]at hv;simp only[Option.getD_some]at hv;rw[hv]
 simp only[Region.wanted,hg,yielded,ht,Option.bind_some,hlt]
 cases b<;>cases want<;>rfl
theorem wanted_skip {ops:Array Oper} {o:Oper} (h:Rel w0 F I Z N β st a w) {j:Nat} {want:Bool} {t:Nat} (hg:o.guard=some (j,want)) (ht:(ops[j]?).bind (·.dst)=some t) (hb:st.tmp t = .skip) :
  Region.wanted o (yielded ops a.tmps)=false:=by
 have hv:=h.tmps t
 rw[hb]at hv
 have hv:a.tmps.getD t undef=undef:=hv
 rw[Array.getD_eq_getD_getElem?]at hv
 simp only[Region.wanted,hg,yielded,ht,Option.bind_some]
 cases hx:a.tmps[t]? with
 |none=>rfl
 |some x=>
  rw[hx]at hv
  simp only[Option.getD_some]at hv
  rw[hv]
  rfl
theorem stepO_wpOp (h:Rel w0 F I Z N β st a w) {call:Callf} (hcall:CallAll P Z.gl call) {mu:FuncId->Bool} {soft:Bool} {ops:Array Oper} {i:Nat} {o:Oper} (hi:ops[i]?=some o) (hd : ∀d,o.dst=some d->d<N) {st':St}
  (hs:stepO P call mu soft ops o st=some st') {K:Act->World->Prop} (hK : ∀a' w',To w0 F I Z N st' a' w'->K a' w') (Q:Exit->Act->World->Prop):wpOp P ops Q i K a w:=by
 unfold wpOp
 simp only[hi]
 unfold stepO at hs
 split at hs
 ·rename_i hg
  have hw:Region.wanted o (yielded ops a.tmps)=true:=by simp[Region.wanted,hg]
  rw[if_pos hw]
  exact .inl (Oper.wp_mono (fun a w=>hK a w) (stepS_goes h hcall hd hs o.type o.pos o.after o.guard Q))
 ·rename_i j want hg
  split at hs
  ·rename_i t ht
   split at hs
   ·rename_i b hb
    rw[wanted_rep h hg ht hb]
    split at hs
    ·rename_i hbw
     rw[if_pos (by simp[hbw])]
     exact .inl (Oper.wp_mono (fun a w=>hK a w) (stepS_goes h hcall hd hs o.type o.pos o.after o.guard Q))
    ·rename_i hbw
     cases hs
     rw[if_neg (by simpa using hbw)]
     exact hK _ _ ⟨β,h.putO (t := .skip) hd rfl (fun d g e=>by simp[TV.id]at e)⟩
   ·rename_i hb
    cases hs
    rw[wanted_skip h hg ht hb,if_neg (by simp)]
    exact hK _ _ ⟨β,h.putO (t := .skip) hd rfl (fun d g e=>by simp[TV.id]at e)⟩
   ·cases hs
  ·cases hs
theorem stepC_wpOp (h:Rel w0 F I Z N β st a w) {call:Callf} (hcall:CallAll P Z.gl call) {mu:FuncId->Bool} {ops:Array Oper} {i:Nat} {o:Oper} (hi:ops[i]?=some o) (hd : ∀d,o.dst=some d->d<N) {st':St}
  (hs:stepC P call mu ops o st=some st') {K:Act->World->Prop} (hK : ∀a' w',To w0 F I Z N st' a' w'->K a' w') (Q:Exit->Act->World->Prop):wpOp P ops Q i K a w:=by
 unfold stepC at hs
 split at hs
 ·rename_i hsp
  rw[Bool.and_eq_true]at hsp
  have hg:o.guard=none:=by
   have:=hsp.2
   unfold spcB at this
   rw[Bool.and_eq_true,Bool.and_eq_true]at this
   simpa using this.2.1
  unfold wpOp
  simp only[hi]
  have hw:Region.wanted o (yielded ops a.tmps)=true:=by simp[Region.wanted,hg]
  rw[if_pos hw]
  exact .inl (Oper.wp_mono (fun a w=>hK a w) (stepX_goes h hd hs hsp.2 Q))
 ·exact stepO_wpOp h hcall hi hd hs hK Q
end
end Go.Ev
namespace Go.Ev
open Go.RowKit
inductive Eff where
 |v (t:TV)
 |s (d g:Nat) (cs:List SV)
 |n (cs:List SV) (r:Option (Nat×Nat))
def Eff.app (dst:Option Nat) (st:St):Eff->St
 | .v t=>st.putO dst t
 | .s d g cs=>st.set d g cs
 | .n cs r=>match dst with
  |some d=>st.new d cs (match r with|none => .ptr d (st.gen d) 0|some (size,len) => .ref d (st.gen d) size 0 len)
  |none=>st
section
variable {P:Program} {call:Callf} {mu:FuncId->Bool}
theorem eval_congr {st st2:St} {x:Operand} (h : ∀t,x = .tmp t->st2.tmp t=st.tmp t):st2.eval x=st.eval x:=by
 cases x with
 |tmp t=>exact h t rfl
 |_=>rfl
theorem map_congr {st st2:St} {l:List Operand} (h : ∀x∈l,st2.eval x=st.eval x):l.map st2.eval=l.map st.eval:=List.map_congr_left h
theorem parts_congr {st st2:St} : ∀ {l:List (Nat×Operand)},(∀p∈l,st2.eval p.2=st.eval p.2)->partsSV st2 l=partsSV st l
 | [],_=>rfl
 |(i,x)::r,h=>by
  unfold partsSV
  rw[h (i,x) List.mem_cons_self,parts_congr (fun p hp=>h p (List.mem_cons_of_mem _ hp))]
theorem bldP_congr {P:Program} {st st2:St} {t:TypeId} {l:List (Nat×Operand)} (h : ∀p∈l,st2.eval p.2=st.eval p.2):bldP P st2 t l=bldP P st t l:=by
 unfold bldP
 split
 ·rename_i x
  rw[h (0,x) List.mem_cons_self]
 ·rfl
theorem val_congr {st st2:St} {op:Op} (h : ∀x∈op.operands,st2.eval x=st.eval x) (ho : ∀d g,adrOp st op=some d->st2.obj d g=st.obj d g) (hh:Hb st2 st):val P st2 op=val P st op:=by
 cases op with
 |move x=>simp only[val,h x (by simp[Op.operands])]
 |assign x=>simp only[val,h x (by simp[Op.operands])]
 |pick c a b=>simp only[val,h c (by simp[Op.operands]),h a (by simp[Op.operands]),h b (by simp[Op.operands])]
 |build t ps=>
  have:partsSV st2 ps.toList=partsSV st ps.toList:=parts_congr fun p hp=>h p.2 (by
   simp only[Op.operands,List.mem_toArray,List.mem_map]
   exact⟨p,hp,rfl⟩)
  have h2:bldP P st2 t ps.toList=bldP P st t ps.toList:=bldP_congr fun p hp=>h p.2 (by
   simp only[Op.operands,List.mem_toArray,List.mem_map]
   exact⟨p,hp,rfl⟩)
  simp only[val,this,h2]
 |load t x=>
  have hx:st2.eval x=st.eval x:=h x (by simp[Op.operands])
  simp only[val,hx]
  cases e:st.eval x with
  |ptr d g off=>simp only[ho d g (by simp[adrOp,e,TV.adr]),hh.1]
  |sv s=>
   rw[hh.2.1]
   cases s with
   |con v=>
    cases shp P t with
    |none=>rfl
    |some sh=>
     cases v with
     |pointer A=>cases A with
      |none=>rfl
      |some q=>obtain⟨b,off,sp⟩:=q;cases sp<;>rfl
     |_=>rfl
   |_=>rfl
  |_=>rfl
 |binOp op t x y yt=>simp only[val,h x (by simp[Op.operands]),h y (by simp[Op.operands])]
 |unOp op t x=>simp only[val,h x (by simp[Op.operands])]
 |nilCheck x=>simp only[val,h x (by simp[Op.operands])]
 |convert s d x=>simp only[val,h x (by simp[Op.operands])]
 |extract x i=>simp only[val,h x (by simp[Op.operands])]
 |field t x f=>simp only[val,h x (by simp[Op.operands])]
 |fieldAddr t x f=>simp only[val,h x (by simp[Op.operands])]
 |indexAddr t x ix=>simp only[val,h x (by simp[Op.operands]),h ix (by simp[Op.operands])]
 |index t x ix=>simp only[val,h x (by simp[Op.operands]),h ix (by simp[Op.operands])]
 |slice t x lo hi mx=>
  have h1:st2.eval x=st.eval x:=h x (by simp[Op.operands])
  have h2:loNat st2 lo=loNat st lo:=by
   cases lo with
   |none=>rfl
   |some o=>simp only[loNat,h o (by simp[Op.operands])]
  have h3:hiNat st2 x hi=hiNat st x hi:=by
   cases hi with
   |none=>simp only[hiNat,h1]
   |some o=>simp only[hiNat,h o (by simp[Op.operands])]
  have h4:someNat st2 hi=someNat st hi:=by
   cases hi with
   |none=>rfl
   |some o=>simp only[someNat,h o (by simp[Op.operands])]
  have h5:someNat st2 mx=someNat st mx:=by
   cases mx with
   |none=>rfl
   |some o=>simp only[someNat,h o (by simp[Op.operands])]
  simp only[val,h1,h2,h3,h4,h5]
 |makeFunc fn first captured=>
  cases fn with
  |func f=>
   have:captured.toList.map st2.eval=captured.toList.map st.eval:=map_congr fun x hx=>h x (by simp[Op.operands];exact .inr (by simpa using hx))
   simp only[val,this]
  |_=>rfl
 |call c=>
  obtain⟨callee,args,tys⟩:=c
  cases callee with
  |value f=>rfl
  |invoke r m=>rfl
  |builtin b=>
   have hm:args.toList.map st2.eval=args.toList.map st.eval:=map_congr fun x hx=>h x (by simp[Op.operands,Call.operands];simpa using hx)
   cases b with
   |len=>
    unfold val
    simp only
    cases ha:args.toList with
    |nil=>rfl
    |cons x r=>
     have hx:st2.eval x=st.eval x:=h x (by simp[Op.operands,Call.operands];exact Array.mem_toList_iff.1 (by rw[ha];exact List.mem_cons_self))
     cases r with
     |nil=>cases tys.toList with
      |nil=>rfl
      |cons t r'=>cases r' with
       |nil=>simp only[hx]
       |cons _ _=>rfl
     |cons _ _=>rfl
   |cap=>
    unfold val
    simp only
    cases ha:args.toList with
    |nil=>rfl
    |cons x r=>
     have hx:st2.eval x=st.eval x:=h x (by simp[Op.operands,Call.operands];exact Array.mem_toList_iff.1 (by rw[ha];exact List.mem_cons_self))
     cases r with
     |nil=>cases tys.toList with
      |nil=>rfl
      |cons t r'=>cases r' with
       |nil=>simp only[hx]
       |cons _ _=>rfl
     |cons _ _=>rfl
   |min=>simp only[val,hm]
   |max=>simp only[val,hm]
   |_=>rfl
 |_=>rfl
theorem reads_op {ops:Array Oper} {o:Oper} {st st2:St} (h : ∀t∈readsOf ops o,st2.tmp t=st.tmp t) : ∀x∈o.op.operands,st2.eval x=st.eval x:=by
 intro x hx
 refine eval_congr fun t ht=>h t ?_
 subst ht
 exact List.mem_append_left _ (List.mem_filterMap.2 ⟨.tmp t,by simpa using hx,rfl⟩)
theorem roCall_eff {dst:Option Nat} {g:FuncId} {caps:List SV} {vs:List TV} {st s1:St} (h:roCall call mu dst g caps vs st=some s1) :
  ∃s d g' r,vs = .ptr d g' 0::r/\s1=st.putO dst (.sv s)/\mu g=true /\ ∀st2:St,st2.obj d g'=st.obj d g'->roCall call mu dst g caps vs st2=some (st2.putO dst (.sv s)):=by
 unfold roCall at h
 split at h
 ·rename_i d g' r
  split at h
  ·cases h
  rename_i hnH
  split at h
  ·rename_i cs ss ho hss
   split at h
   ·rename_i hm
    split at h
    ·rename_i s exps hc
     split at h
     ·rename_i cs' e he
      split at h
      ·rename_i hk
       cases h
       refine⟨s,d,g',r,rfl,rfl,hm,fun st2 h2 => ?_⟩
       unfold roCall
       simp only[h2,ho,hss]
       rw[if_neg hnH,if_pos hm]
       simp only[hc,he]
       rw[if_pos hk]
      ·cases h
     ·cases h
    ·cases h
   ·cases h
  ·cases h
 ·cases h
theorem step_eff (hlk:LookOk call) {st s1:St} {dst:Option Nat} {op:Op} (hh:isHard op=false) (hs:step P call mu true dst op st=some s1) :
  ∃e:Eff,s1=e.app dst st/\(∀d g cs,e = .s d g cs->isStore op=true/\adrOp st op=some d/\dst=none)/\(∀cs r,e = .n cs r->isAlloc op=true) /\
   ∀st2:St,(∀x∈op.operands,st2.eval x=st.eval x)->(∀d g,adrOp st op=some d->st2.obj d g=st.obj d g)->Hb st2 st->((∃g,mu g=true)->st2.obj=st.obj/\st2.gen=st.gen)->step P call mu true dst op st2=some (e.app dst st2):=by
 unfold step at hs
 split at hs
 ·-- a call
  rename_i f args tys
  unfold acall at hs
  split at hs
  ·rename_i g caps hf
   split at hs
   ·rename_i ss hss
    have hs:afterCall true dst st (call g ((ss++caps).map Arg.sv))=some s1:=hs
    have hbc : ∀st2,borCall call mu true dst g (ss++caps) st2=afterCall true dst st2 (call g ((ss++caps).map Arg.sv)):=fun _=>rfl
    cases hc:call g ((ss++caps).map Arg.sv) with
    |none=>rw[hc]at hs;cases hs
    |some re=>
     obtain⟨r,exps⟩:=re
     rw[hc]at hs
     cases r with
     |obj cs=>simp[afterCall]at hs
     |heap ts=>simp[afterCall]at hs
     |st s1 t1=>simp[afterCall]at hs
     |row cs size off n=>
      cases hs
      refine⟨.v (.sv (.sl n ((cs.drop off).take (n*size)))),rfl,(by intro _ _ _ e;cases e),(by intro _ _ e;cases e),fun st2 h _ _ _ => ?_⟩
      have hf2:st2.eval f = .sv (.fn g caps):=(h f (by simp[Op.operands,Call.operands])).trans hf
      have hm:args.toList.map st2.eval=args.toList.map st.eval:=map_congr fun x hx=>h x (by simp[Op.operands,Call.operands];exact .inr (by simpa using hx))
      show acall call mu true dst f args.toList st2=_
      unfold acall
      rw[hf2]
      simp only
      rw[hm,hss]
      simp only
      rw[hbc,hc]
      rfl
     |sv s=>
      cases hs
      refine⟨.v (.sv s),rfl,(by intro _ _ _ e;cases e),(by intro _ _ e;cases e),fun st2 h _ _ _ => ?_⟩
      have hf2:st2.eval f = .sv (.fn g caps):=(h f (by simp[Op.operands,Call.operands])).trans hf
      have hm:args.toList.map st2.eval=args.toList.map st.eval:=map_congr fun x hx=>h x (by simp[Op.operands,Call.operands];exact .inr (by simpa using hx))
      show acall call mu true dst f args.toList st2=_
      unfold acall
      rw[hf2]
      simp only
      rw[hm,hss]
      simp only
      rw[hbc,hc]
      rfl
   ·rename_i hss
    rw[if_pos rfl]at hs
    split at hs
    ·rename_i hin
     unfold inLook at hs
     split at hs
     ·rename_i s exps hc
      cases hs
      refine⟨.v (.sv s),rfl,(by intro _ _ _ e;cases e),(by intro _ _ e;cases e),fun st2 h _ hhb hgo => ?_⟩
      have hf2:st2.eval f = .sv (.fn g caps):=(h f (by simp[Op.operands,Call.operands])).trans hf
      have hm:args.toList.map st2.eval=args.toList.map st.eval:=map_congr fun x hx=>h x (by simp[Op.operands,Call.operands];exact .inr (by simpa using hx))
      obtain⟨ho2,hg2⟩:=hgo ⟨_,hin⟩
      obtain⟨e',he'⟩:=hlk _ _ st2 _ _ _ hc ho2 hg2 hhb
      show acall call mu true dst f args.toList st2=_
      unfold acall
      rw[hf2]
      simp only
      rw[hm,hss]
      simp only[if_true]
      rw[if_pos hin]
      unfold inLook
      rw[he']
      rfl
     ·cases hs
    rename_i hin
    obtain⟨s,d,g',r,hvs,rfl,hmu,hro⟩:=roCall_eff hs
    refine⟨.v (.sv s),rfl,(by intro _ _ _ e;cases e),(by intro _ _ e;cases e),fun st2 h hobj hhb hgo => ?_⟩
    have hf2:st2.eval f = .sv (.fn g caps):=(h f (by simp[Op.operands,Call.operands])).trans hf
    have hm:args.toList.map st2.eval=args.toList.map st.eval:=map_congr fun x hx=>h x (by simp[Op.operands,Call.operands];exact .inr (by simpa using hx))
    show acall call mu true dst f args.toList st2=_
    unfold acall
    rw[hf2]
    simp only
    rw[hm,hss]
    simp only
    simp only[if_true]
    rw[if_neg hin]
    refine hro st2 (hobj d g' ?_)
    cases ha:args.toList with
    |nil=>rw[ha]at hvs;cases hvs
    |cons x l=>
     rw[ha,List.map_cons]at hvs
     injection hvs with e1 _
     simp only[adrOp,ha,e1,TV.adr]
  ·cases hs
 ·cases hh
 ·cases hh
 ·cases hh
 ·-- a store
  rename_i t x y
  split at hs
  ·cases hs
  ·rename_i hn
   have hdn:dst=none:=by cases dst with
    |none=>rfl
    |some d=>simp at hn
   subst hdn
   unfold store at hs
   split at hs
   ·rename_i b size d g off hsh hx
    split at hs
    ·split at hs
     ·split at hs
      ·rename_i hc
       exact absurd hc.2.2.2 (by simp)
      ·cases hs
     ·cases hs
    rename_i hnH
    split at hs
    ·rename_i s hy
     split at hs
     ·rename_i cs ho
      split at hs
      ·rename_i hc
       cases hs
       refine⟨.s d g (splice cs off s.cells),rfl,(by intro _ _ _ e;cases e;exact⟨rfl,by simp[adrOp,hx,TV.adr],rfl⟩),(by intro _ _ e;cases e),fun st2 h hobj hhb hgo => ?_⟩
       have hx2:st2.eval x = .ptr d g off:=(h x (by simp[Op.operands])).trans hx
       have hy2:st2.eval y=st.eval y:=h y (by simp[Op.operands])
       show store P true st2 t x y=_
       unfold store
       rw[hsh,hx2]
       simp only
       rw[if_neg hnH,hy2,hy]
       simp only
       rw[hobj d g (by simp[adrOp,hx,TV.adr]),ho]
       simp only
       rw[if_pos hc]
       rfl
      ·cases hs
     ·cases hs
    ·cases hs
   ·split at hs
    ·split at hs
     ·rename_i hc
      exact absurd hc.2.1 (by simp)
     ·cases hs
    ·cases hs
   ·cases hs
 ·-- a new object
  rename_i t
  cases dst with
  |none=>simp[hard]at hs
  |some d=>
   simp only[hard]at hs
   split at hs
   ·rename_i cs hz
    cases hs
    refine⟨.n cs none,rfl,(by intro _ _ _ e;cases e),(by intro _ _ _;rfl),fun st2 _ _ _ _ => ?_⟩
    show hard P (some d) st2 (.alloc t)=_
    simp only[hard,hz]
    rfl
   ·cases hs
 ·cases hh
 ·-- a slice that is written out
  rename_i t n parts
  split at hs
  ·split at hs
   ·rename_i size cs hl
    cases hs
    refine⟨.v (.sv (.sl n cs)),rfl,(by intro _ _ _ e;cases e),(by intro _ _ e;cases e),fun st2 h _ _ _ => ?_⟩
    have:litC P st2 t n parts=litC P st t n parts:=by
     unfold litC
     rw[parts_congr fun p hp=>h p.2 (by
      simp only[Op.operands,List.mem_toArray,List.mem_map]
      exact⟨p,hp,rfl⟩)]
    show (match litC P st2 t n parts with|some (_,cs)=>some (st2.putO dst (.sv (.sl n cs)))|none=>none)=_
    rw[this,hl]
    rfl
   ·cases hs
  ·rename_i hn
   exact absurd rfl hn
 ·-- a new slice
  rename_i t l c
  cases dst with
  |none=>simp[hard]at hs
  |some d=>
   simp only[hard]at hs
   split at hs
   ·rename_i e size bytes he
    split at hs
    ·rename_i n m z hl hc hz
     split at hs
     ·rename_i hcond
      cases hs
      refine⟨.n ((List.replicate n z).flatten) (some (size,n)),rfl,(by intro _ _ _ e;cases e),(by intro _ _ _;rfl),fun st2 h _ _ _ => ?_⟩
      have h1:natTV (st2.eval l)=some n:=by rw[h l (by simp[Op.operands])];exact hl
      have h2:natTV (st2.eval c)=some m:=by rw[h c (by simp[Op.operands])];exact hc
      show hard P (some d) st2 (.makeSlice t l c)=_
      simp only[hard,he,h1,h2,hz]
      rw[if_pos hcond]
      rfl
     ·cases hs
    ·cases hs
   ·cases hs
 ·rename_i h1 h2 h3 h4 h5 h6 h7 h8 h9
  split at hs
  ·rename_i v hv
   cases hs
   refine⟨.v v,rfl,(by intro _ _ _ e;cases e),(by intro _ _ e;cases e),fun st2 h hobj hhb hgo => ?_⟩
   have h2:val P st2 op=some v:=(val_congr h hobj hhb).trans hv
   unfold step
   split
   case h_10=>rw[h2];rfl
   all_goals (exfalso;solve_by_elim)
  ·simp at hs
theorem sv_adr {x:TV} {s:SV} (h:x.toSV=some s):x.adr=none:=by cases x<;>first|rfl|cases h
theorem step_adr {st s1:St} {dst:Option Nat} {op:Op} {d:Nat} (hs:step P call mu true dst op st=some s1) (had:adrOp st op=some d):(isMem op=true/\isAlloc op=false) \/ ∃g,mu g=true:=by
 cases op with
 |load t x=>exact .inl ⟨rfl,rfl⟩
 |store t x y=>exact .inl ⟨rfl,rfl⟩
 |call c=>
  obtain⟨callee,args,tys⟩:=c
  cases callee with
  |value f=>
   have hs:acall call mu true dst f args.toList st=some s1:=hs
   unfold acall at hs
   split at hs
   ·rename_i g caps hf
    split at hs
    ·rename_i ss hss
     simp only[adrOp]at had
     cases ha:args.toList with
     |nil=>rw[ha]at had;cases had
     |cons x l=>
      rw[ha]at had hss
      rw[List.map_cons]at hss
      obtain⟨s,_,h1,_⟩:=allSV_cons hss
      simp only[sv_adr h1]at had
      cases had
    ·rw[if_pos rfl]at hs
     split at hs
     ·rename_i hin
      exact .inr ⟨_,hin⟩
     ·obtain⟨_,_,_,_,_,_,hmu,_⟩:=roCall_eff hs
      exact .inr ⟨g,hmu⟩
   ·cases hs
  |_=>simp[adrOp]at had
 |_=>simp[adrOp]at had
end
end Go.Ev
namespace Go.Ev
open Go.RowKit
section
variable {P:Program} {call:Callf} {mu:FuncId->Bool}
theorem stepS_some {soft:Bool} {ops:Array Oper} {dst:Option Nat} {op:Op} {st s1:St} (hso:(isVCall op&&soloR ops)=false) (h:stepS P call mu soft ops dst op st=some s1):step P call (muS mu soft ops) soft dst op st=some s1:=by
 unfold stepS at h
 rw[<- Bool.and_assoc,hso,Bool.false_and,if_neg (by simp)]at h
 split at h
 ·cases h
 ·exact h
theorem stepO_eff (hlk:LookOk call) {ops:Array Oper} {o:Oper} {st s1:St} (hh:isHard o.op=false) (hso:(isVCall o.op&&soloR ops)=false) (hs:stepO P call mu true ops o st=some s1) :
  ∃ (e:Eff) (rd:Option Nat),s1=e.app o.dst st/\(∀d g cs,e = .s d g cs->isStore o.op=true/\rd=some d/\o.dst=none)/\(∀cs r,e = .n cs r->isAlloc o.op=true) /\
   (∀d,rd=some d->(isMem o.op=true/\isAlloc o.op=false/\lkv ops o.op (some d)=true)\/noW ops=true) /\
   ∀st2:St,(∀t∈readsOf ops o,st2.tmp t=st.tmp t)->(∀d g,rd=some d->st2.obj d g=st.obj d g)->Hb st2 st->(noW ops=true->st2.obj=st.obj/\st2.gen=st.gen)->stepO P call mu true ops o st2=some (e.app o.dst st2):=by
 have key:stepS P call mu true ops o.dst o.op st=some s1 -> ∃ (e:Eff) (rd:Option Nat),s1=e.app o.dst st/\(∀d g cs,e = .s d g cs->isStore o.op=true/\rd=some d/\o.dst=none)/\(∀cs r,e = .n cs r->isAlloc o.op=true) /\
   (∀d,rd=some d->(isMem o.op=true/\isAlloc o.op=false/\lkv ops o.op (some d)=true)\/noW ops=true) /\
   ∀st2:St,(∀t∈readsOf ops o,st2.tmp t=st.tmp t)->(∀d g,rd=some d->st2.obj d g=st.obj d g)->Hb st2 st->(noW ops=true->st2.obj=st.obj/\st2.gen=st.gen)->stepS P call mu true ops o.dst o.op st2=some (e.app o.dst st2):=by
  intro h
  obtain⟨e,h1,h2,h3,h4⟩:=step_eff hlk hh (stepS_some hso h)
  have hl:isMem o.op=false\/lkv ops o.op (adrOp st o.op)=true:=by
   unfold stepS at h
   rw[<- Bool.and_assoc,hso,Bool.false_and,if_neg (by simp)]at h
   split at h
   ·cases h
   ·rename_i hn
    cases hm:isMem o.op with
    |false=>exact .inl rfl
    |true=>
     right
     rw[hm]at hn
     simpa using hn
  refine⟨e,adrOp st o.op,h1,h2,h3,fun d hd => ?_,fun st2 hr ho hhb hgo => ?_⟩
  ·rcases step_adr (stepS_some hso h) hd with hk|⟨g,hg⟩
   ·refine .inl ⟨hk.1,hk.2,?_⟩
    rcases hl with h|h
    ·rw[hk.1]at h;cases h
    ·rw[hd]at h;exact h
   ·right
    have hg:(mu g&&noW ops)=true:=hg
    rw[Bool.and_eq_true]at hg
    exact hg.2
  ·have ha:adrOp st2 o.op=adrOp st o.op:=by
    have:=reads_op (ops:=ops) (o:=o) hr
    revert this
    cases o.op with
    |call c=>
     intro this
     obtain⟨callee,args,tys⟩:=c
     cases callee with
     |value f=>
      simp only[adrOp]
      cases ha:args.toList with
      |nil=>rfl
      |cons x l=>
       simp only
       rw[this x (by simp[Op.operands,Call.operands];exact .inr (by have:x∈args.toList:=(by rw[ha];exact List.mem_cons_self);simpa using this))]
     |_=>rfl
    |_=>intro this;first|rfl|(simp only[adrOp];rw[this _ (by simp[Op.operands])])
   unfold stepS
   rw[<- Bool.and_assoc,hso,Bool.false_and,if_neg (by simp),ha,if_neg]
   ·refine h4 st2 (reads_op hr) ho hhb fun ⟨g,hg⟩=>hgo ?_
    have hg:(mu g&&noW ops)=true:=hg
    rw[Bool.and_eq_true]at hg
    exact hg.2
   ·rcases hl with h|h<;>simp[h]
 unfold stepO at hs
 split at hs
 ·rename_i hg
  obtain⟨e,rd,h1,h2,h3,h4,h5⟩:=key hs
  refine⟨e,rd,h1,h2,h3,h4,fun st2 hr ho hhb hgo => ?_⟩
  unfold stepO
  rw[hg]
  exact h5 st2 hr ho hhb hgo
 ·rename_i j want hg
  split at hs
  ·rename_i t ht
   split at hs
   ·rename_i b hb
    have htr:t∈readsOf ops o:=by
     unfold readsOf
     rw[hg]
     simp only[ht]
     exact List.mem_append_right _ (by simp)
    split at hs
    ·rename_i hbw
     obtain⟨e,rd,h1,h2,h3,h4,h5⟩:=key hs
     refine⟨e,rd,h1,h2,h3,h4,fun st2 hr ho hhb hgo => ?_⟩
     unfold stepO
     rw[hg]
     simp only[ht]
     rw[hr t htr,hb]
     simp only
     rw[if_pos hbw]
     exact h5 st2 hr ho hhb hgo
    ·rename_i hbw
     cases hs
     refine⟨.v .skip,none,rfl,(by intro _ _ _ e;cases e),(by intro _ _ e;cases e),(by intro _ e;cases e),fun st2 hr _ _ _ => ?_⟩
     unfold stepO
     rw[hg]
     simp only[ht]
     rw[hr t htr,hb]
     simp only
     rw[if_neg hbw]
     rfl
   ·rename_i hb
    have htr:t∈readsOf ops o:=by
     unfold readsOf
     rw[hg]
     simp only[ht]
     exact List.mem_append_right _ (by simp)
    cases hs
    refine⟨.v .skip,none,rfl,(by intro _ _ _ e;cases e),(by intro _ _ e;cases e),(by intro _ e;cases e),fun st2 hr _ _ _ => ?_⟩
    unfold stepO
    rw[hg]
    simp only[ht]
    rw[hr t htr,hb]
    rfl
   ·cases hs
  ·cases hs
theorem putO_other {st:St} {dst:Option Nat} {v:TV} {t:Nat} (h : ∀d,dst=some d->t≠d):(st.putO dst v).tmp t=st.tmp t:=by
 cases dst with
 |none=>rfl
 |some d=>exact if_neg (h d rfl)
theorem putO_obj {st:St} {dst:Option Nat} {v:TV}:(st.putO dst v).obj=st.obj:=by cases dst<;>rfl
theorem putO_comm {st:St} {x y:Option Nat} {u v:TV} (h : ∀d,x=some d->y≠some d):(st.putO x u).putO y v=(st.putO y v).putO x u:=by
 cases x with
 |none=>rfl
 |some d=>cases y with
  |none=>rfl
  |some e=>
   have hne:d≠e:=fun hh=>h d rfl (by rw[hh])
   simp only[St.putO,St.put]
   congr 1
   funext t
   by_cases h1:t=e
   ·subst h1
    rw[if_pos rfl,if_neg (fun hh=>hne hh.symm),if_pos rfl]
   ·rw[if_neg h1]
    by_cases h2:t=d
    ·rw[if_pos h2,if_pos h2]
    ·rw[if_neg h2,if_neg h2,if_neg h1]
theorem calm_symm {x y:Op}:calm x y=calm y x:=by
 unfold calm
 cases isW x<;>cases isW y<;>cases isMem x<;>cases isMem y<;>rfl
theorem apartX_symm {a b:Option Operand} (h:apartX a b=true):apartX b a=true:=by
 cases a with
 |none=>cases b with
  |none=>rfl
  |some b=>cases b<;>rfl
 |some a=>cases b with
  |none=>cases a<;>rfl
  |some b=>
   cases a<;>cases b<;>first|rfl|cases h|(simp only[apartX,bne_iff_ne]at h ⊢;exact fun e=>h e.symm)
theorem apart_symm {x y:Op} (h:apart x y=true):apart y x=true:=by
 unfold apart at h ⊢
 rw[Bool.or_comm (isStore y)]
 simp only[Bool.or_eq_true]at h ⊢
 rcases h with h|h
 ·exact .inl h
 ·exact .inr (apartX_symm h)
theorem indep_parts {ops:Array Oper} {x y:Oper} (h:indep ops x y=true):isHard x.op=false/\isHard y.op=false/\(isVCall x.op&&soloR ops)=false/\(isVCall y.op&&soloR ops)=false/\(∀d,x.dst=some d->d∉readsOf ops y/\y.dst≠some d)/\(∀d,y.dst=some d->d∉readsOf ops x) /\
  (calm x.op y.op=true\/(calmAll ops=false/\apart x.op y.op=true)):=by
 unfold indep at h
 simp only[Bool.and_eq_true,Bool.not_eq_true',Bool.or_eq_true]at h
 obtain⟨⟨⟨h0,h0'⟩,hq⟩,h1,h2,h3⟩:=h
 have hq1:(isVCall x.op&&soloR ops)=false:=by cases e:isVCall x.op<;>simp_all
 have hq2:(isVCall y.op&&soloR ops)=false:=by cases e:isVCall y.op<;>simp_all
 refine⟨h0,h0',hq1,hq2,fun d hd => ?_,fun d hd => ?_,h3⟩
 ·rw[hd]at h1
  simpa using h1
 ·rw[hd]at h2
  simpa using h2
theorem far {ops:Array Oper} {p q:Oper} (hp:p∈ops.toList) (hi:calm p.op q.op=true\/(calmAll ops=false/\apart p.op q.op=true)) (hr : ∀d,p.dst=some d->d∉readsOf ops q) {d d':Nat}
  (hq:isMem q.op=true/\isAlloc q.op=false/\lkv ops q.op (some d')=true) (hw:(isStore p.op=true/\lkv ops p.op (some d)=true)\/(isAlloc p.op=true/\p.dst=some d)):d≠d':=by
 intro e
 subst e
 have hpW:isW p.op=true:=by
  unfold isW
  rcases hw with h|h<;>simp[h.1]
 have hnc:calmAll ops=false/\apart p.op q.op=true:=by
  refine hi.resolve_left fun hc => ?_
  unfold calm at hc
  rw[hpW,hq.1]at hc
  simp at hc
 obtain⟨hca,hap⟩:=hnc
 have hq3:=hq.2.2
 unfold lkv at hq3
 rw[hca,Bool.false_or]at hq3
 have rd : ∀ {t:Nat} (x:Operand),x = .tmp t->x∈q.op.operands->t∈readsOf ops q:=by
  intro t x hx hm
  subst hx
  exact List.mem_append_left _ (List.mem_filterMap.2 ⟨.tmp t,by simpa using hm,rfl⟩)
 rcases hw with⟨hs,hl⟩|⟨ha,hd⟩
 ·unfold lkv at hl
  rw[hca,Bool.false_or]at hl
  cases hpo:p.op with
  |store t x y=>
   rw[hpo]at hl hap
   simp only at hl
   cases x with
   |tmp s=>
    have hsd:s=d:=by simpa using hl
    subst hsd
    have hmem:s∈lkT ops:=List.mem_filterMap.2 ⟨p,hp,by simp only[hpo]⟩
    cases hqo:q.op with
    |load t' z=>
     rw[hqo]at hq3 hap
     simp only at hq3
     rw[List.all_eq_true]at hq3
     have:=hq3 s hmem
     cases z with
     |tmp u=>
      simp[apart,apartX,memOp,isStore]at hap this
      exact hap this.symm
     |_=>simp at this
    |store t' z z' =>
     rw[hqo]at hq3 hap
     simp only at hq3
     cases z with
     |tmp u=>
      simp[apart,apartX,memOp,isStore]at hap hq3
      exact hap hq3.symm
     |_=>simp at hq3
    |_=>
     have:=hq.1
     have h2:=hq.2.1
     rw[hqo]at this h2
     first|(simp[isMem,isStore,isLoad,isAlloc]at this;done)|(simp[isAlloc]at h2)
   |_=>simp at hl
  |_=>rw[hpo]at hs;cases hs
 ·have hmem:d∈lkT ops:=by
   refine List.mem_filterMap.2 ⟨p,hp,?_⟩
   cases hpo:p.op with
   |alloc t=>simp only[hd]
   |makeSlice t l c=>simp only[hd]
   |_=>rw[hpo]at ha;cases ha
  have hnr:=hr d hd
  cases hqo:q.op with
  |load t' z=>
   rw[hqo]at hq3
   simp only at hq3
   rw[List.all_eq_true]at hq3
   have:=hq3 d hmem
   cases z with
   |tmp u=>
    simp at this
    subst this
    exact hnr (rd (.tmp u) rfl (by rw[hqo];simp[Op.operands]))
   |_=>simp at this
  |store t' z z' =>
   rw[hqo]at hq3
   simp only at hq3
   cases z with
   |tmp u=>
    simp at hq3
    subst hq3
    exact hnr (rd (.tmp u) rfl (by rw[hqo];simp[Op.operands]))
   |_=>simp at hq3
  |_=>
   have:=hq.1
   have h2:=hq.2.1
   rw[hqo]at this h2
   first|(simp[isMem,isStore,isLoad,isAlloc]at this;done)|(simp[isAlloc]at h2)
theorem app_tmp {e:Eff} {st:St} {dst:Option Nat} {t:Nat} (h : ∀d,dst=some d->t≠d):(e.app dst st).tmp t=st.tmp t:=by
 cases e with
 |v u=>exact putO_other h
 |s d g cs=>rfl
 |n cs r=>cases dst with
  |none=>rfl
  |some d=>exact if_neg (h d rfl)
theorem app_gen {e:Eff} {st:St} {dst:Option Nat} {d:Nat} (h:dst≠some d):(e.app dst st).gen d=st.gen d:=by
 cases e with
 |v u=>cases dst<;>rfl
 |s d g cs=>rfl
 |n cs r=>cases dst with
  |none=>rfl
  |some d'=>exact if_neg (fun e=>h (by rw[e]))
theorem app_obj {e:Eff} {st:St} {dst:Option Nat} {d g:Nat} (hs : ∀d' g' cs,e = .s d' g' cs->d'≠d) (hn : ∀cs r,e = .n cs r->dst≠some d):(e.app dst st).obj d g=st.obj d g:=by
 cases e with
 |v u=>cases dst<;>rfl
 |s d' g' cs=>exact if_neg (fun h=>hs d' g' cs rfl h.1.symm)
 |n cs r=>cases dst with
  |none=>rfl
  |some d'=>exact if_neg (fun h=>hn cs r rfl (by rw[h.1]))
theorem St.ext' {s t:St} (h1 : ∀x,s.tmp x=t.tmp x) (h2 : ∀d g,s.obj d g=t.obj d g) (h3 : ∀d,s.gen d=t.gen d) (h4:s.hob=t.hob) (h5:s.up=t.up) (h6:s.bm=t.bm:=by rfl) (h7:s.bw=t.bw:=by rfl):s=t:=by
 cases s
 cases t
 simp only[St.mk.injEq]
 exact⟨funext h1,funext fun d=>funext fun g=>h2 d g,funext h3,h4,h5,h6,h7⟩
theorem app_bm {e:Eff} {st:St} {dst:Option Nat}:(e.app dst st).bm=st.bm/\(e.app dst st).bw=st.bw:=by
 cases e<;>cases dst<;>exact⟨rfl,rfl⟩
theorem app_hob {e:Eff} {st:St} {dst:Option Nat}:(e.app dst st).hob=st.hob:=by
 cases e<;>cases dst<;>rfl
theorem app_up {e:Eff} {st:St} {dst:Option Nat}:(e.app dst st).up=st.up:=by
 cases e<;>cases dst<;>rfl
def Eff.ob (dst:Option Nat):Eff->Option Nat
 | .v _=>none
 | .s d _ _=>some d
 | .n _ _=>dst
theorem app_ob {e:Eff} {st:St} {dst:Option Nat} {d g:Nat} (h:e.ob dst≠some d):(e.app dst st).obj d g=st.obj d g:=by
 refine app_obj (fun d' g' cs he hd=>h ?_) (fun cs r he hd=>h ?_)
 ·rw[he,hd];rfl
 ·rw[he,hd];rfl
theorem app_same {e:Eff} {st st2:St} {dst:Option Nat} (hg : ∀d,dst=some d->st2.gen d=st.gen d) :
  ((∀t,dst=some t->(∀d g cs,e ≠ .s d g cs)->(e.app dst st2).tmp t=(e.app dst st).tmp t))/\(∀ (d g:Nat),e.ob dst=some d->st2.obj d g=st.obj d g->(e.app dst st2).obj d g=(e.app dst st).obj d g)/\(∀d,dst=some d->(e.app dst st2).gen d=(e.app dst st).gen d):=by
 cases e with
 |v u=>
  refine⟨fun t ht _ => ?_,⟨fun d g h _=>(by cases h),fun d hd => ?_⟩⟩
  ·subst ht;simp[Eff.app,St.putO,St.put]
  ·subst hd;exact hg d rfl
 |s d' g' cs=>
  refine⟨fun t _ h=>(h _ _ _ rfl).elim,fun d g h ho => ?_,fun d hd => ?_⟩
  ·simp only[Eff.app,St.set]
   split
   ·rfl
   ·exact ho
  ·exact hg d hd
 |n cs r=>
  cases dst with
  |none=>exact⟨fun _ h=>(by cases h),fun _ _ h=>(by simp[Eff.ob]at h),fun _ h=>(by cases h)⟩
  |some x=>
   have:=hg x rfl
   refine⟨fun t ht _ => ?_,fun d g h ho => ?_,fun d hd => ?_⟩
   ·cases ht;simp[Eff.app,St.new,this]
   ·simp only[Eff.app,St.new,this,ho]
   ·cases hd;simp only[Eff.app,St.new,this]
theorem app_comm {ex ey:Eff} {st:St} {x y:Option Nat} (hd : ∀d,x=some d->y≠some d) (hob : ∀d,ex.ob x=some d->ey.ob y≠some d) (hsx : ∀d g cs,ex = .s d g cs->x=none) (hsy : ∀d g cs,ey = .s d g cs->y=none) :
  ex.app x (ey.app y st)=ey.app y (ex.app x st):=by
 have hd' : ∀d,y=some d->x≠some d:=fun d h e=>hd d e h
 obtain⟨x1,x2,x3⟩:=app_same (e:=ex) (st:=st) (st2:=ey.app y st) (dst:=x) (fun d h=>app_gen (hd d h))
 obtain⟨y1,y2,y3⟩:=app_same (e:=ey) (st:=st) (st2:=ex.app x st) (dst:=y) (fun d h=>app_gen (hd' d h))
 refine St.ext' (fun t => ?_) (fun d g => ?_) (fun d => ?_) (by simp only[app_hob]) (by simp only[app_up]) (by simp only[app_bm]) (by simp only[app_bm])
 ·by_cases hx:x=some t
  ·have hy:y≠some t:=hd t hx
   rw[x1 t hx (fun d g cs e=>by rw[hsx d g cs e]at hx;cases hx)]
   exact(app_tmp fun d h e=>hy (by rw[h,e])).symm
  ·rw[app_tmp (e:=ex) (fun d h e=>hx (by rw[h,e]))]
   by_cases hy:y=some t
   ·exact(y1 t hy (fun d g cs e=>by rw[hsy d g cs e]at hy;cases hy)).symm
   ·rw[app_tmp (e:=ey) (fun d h e=>hy (by rw[h,e])),app_tmp (e:=ey) (fun d h e=>hy (by rw[h,e])),app_tmp (e:=ex) (fun d h e=>hx (by rw[h,e]))]
 ·by_cases hx:ex.ob x=some d
  ·have hy:=hob d hx
   rw[x2 d g hx (app_ob hy),app_ob hy]
  ·rw[app_ob hx]
   by_cases hy:ey.ob y=some d
   ·exact(y2 d g hy (app_ob hx)).symm
   ·rw[app_ob hy,app_ob hy,app_ob hx]
 ·by_cases hx:x=some d
  ·rw[x3 d hx,app_gen (hd d hx)]
  ·rw[app_gen hx]
   by_cases hy:y=some d
   ·exact(y3 d hy).symm
   ·rw[app_gen hy,app_gen hy,app_gen hx]
theorem not_noW {ops:Array Oper} {x:Oper} (hx:x∈ops.toList) (hw:isW x.op=true) : ¬noW ops=true:=by
 intro h
 have:=List.all_eq_true.1 h x hx
 rw[hw]at this
 cases this
theorem wW {x:Oper} {A B:Prop} (h:(isStore x.op=true/\A)\/(isAlloc x.op=true/\B)):isW x.op=true:=by
 unfold isW
 rcases h with h|h<;>simp[h.1]
theorem swap (hlk:LookOk call) {ops:Array Oper} {x y:Oper} (hx0:x∈ops.toList) (hy0:y∈ops.toList) (hi:indep ops x y=true) {st s1 s2:St} (hx:stepO P call mu true ops x st=some s1) (hy:stepO P call mu true ops y s1=some s2) :
  ∃s,stepO P call mu true ops y st=some s/\stepO P call mu true ops x s=some s2:=by
 obtain⟨hhx,hhy,sox,soy,p1,p2,p3⟩:=indep_parts hi
 have p3':calm y.op x.op=true\/(calmAll ops=false/\apart y.op x.op=true):=by
  rcases p3 with h|h
  ·left;rw[calm_symm];exact h
  ·right;exact⟨h.1,apart_symm h.2⟩
 obtain⟨ex,rx,rfl,sx,nx,lx,cx⟩:=stepO_eff hlk hhx sox hx
 obtain⟨ey,ry,rfl,sy,ny,ly,cy⟩:=stepO_eff hlk hhy soy hy
 -- what an effect writes, in the words of 'far'
 have wx : ∀d,ex.ob x.dst=some d->(isStore x.op=true/\lkv ops x.op (some d)=true)\/(isAlloc x.op=true/\x.dst=some d):=by
  intro d h
  cases ex with
  |v u=>cases h
  |s d' g cs=>cases h;obtain⟨a1,a2,_⟩:=sx _ _ _ rfl;exact .inl ⟨a1,((lx d a2).resolve_right (not_noW hx0 (by unfold isW;rw[a1];rfl))).2.2⟩
  |n cs r=>exact .inr ⟨nx _ _ rfl,h⟩
 have wy : ∀d,ey.ob y.dst=some d->(isStore y.op=true/\lkv ops y.op (some d)=true)\/(isAlloc y.op=true/\y.dst=some d):=by
  intro d h
  cases ey with
  |v u=>cases h
  |s d' g cs=>cases h;obtain⟨a1,a2,_⟩:=sy _ _ _ rfl;exact .inl ⟨a1,((ly d a2).resolve_right (not_noW hy0 (by unfold isW;rw[a1];rfl))).2.2⟩
  |n cs r=>exact .inr ⟨ny _ _ rfl,h⟩
 have fxy : ∀d,ry=some d->ex.ob x.dst≠some d:=fun d h e=>far hx0 p3 (fun d hd=>(p1 d hd).1) ((ly d h).resolve_right (not_noW hx0 (wW (wx d e)))) (wx d e) rfl
 have fyx : ∀d,rx=some d->ey.ob y.dst≠some d:=fun d h e=>far hy0 p3' p2 ((lx d h).resolve_right (not_noW hy0 (wW (wy d e)))) (wy d e) rfl
 have hst : ∀t∈readsOf ops y,st.tmp t=(ex.app x.dst st).tmp t:=fun t ht=>(app_tmp fun d hd e=>(p1 d hd).1 (e▸ht)).symm
 have nox:noW ops=true->(ex.app x.dst st).obj=st.obj/\(ex.app x.dst st).gen=st.gen:=fun hn=>by
  cases ex with
  |v u=>cases x.dst<;>exact⟨rfl,rfl⟩
  |s d' g cs=>exact(not_noW hx0 (wW (wx d' rfl)) hn).elim
  |n cs r=>exact(not_noW hx0 (by unfold isW;rw[nx _ _ rfl];simp) hn).elim
 have noy:noW ops=true->(ey.app y.dst st).obj=st.obj/\(ey.app y.dst st).gen=st.gen:=fun hn=>by
  cases ey with
  |v u=>cases y.dst<;>exact⟨rfl,rfl⟩
  |s d' g cs=>exact(not_noW hy0 (wW (wy d' rfl)) hn).elim
  |n cs r=>exact(not_noW hy0 (by unfold isW;rw[ny _ _ rfl];simp) hn).elim
 refine⟨ey.app y.dst st,cy st hst (fun d g h=>(app_ob (fxy d h)).symm) ⟨app_hob.symm,app_bm.1.symm,app_bm.2.symm⟩ (fun hn=>⟨(nox hn).1.symm,(nox hn).2.symm⟩),?_⟩
 rw[cx (ey.app y.dst st) (fun t ht=>app_tmp fun d hd e=>p2 d hd (e▸ht)) (fun d g h=>app_ob (fyx d h)) ⟨app_hob,app_bm⟩ noy]
 refine congrArg some (app_comm (fun d hd=>(p1 d hd).2) (fun d h e => ?_) (fun d g cs e=>(sx d g cs e).2.2) (fun d g cs e=>(sy d g cs e).2.2))
 -- both write one object's number
 cases ex with
 |v u=>cases h
 |s d' g cs=>cases h;exact fyx d (sx _ _ _ rfl).2.1 e
 |n cs r=>
  cases ey with
  |v u=>cases e
  |s d' g cs=>cases e;exact fxy d (sy _ _ _ rfl).2.1 h
  |n cs' r'=>exact(p1 d h).2 e
def execI (P:Program) (call:Callf) (mu:FuncId->Bool) (ops:Array Oper):List Nat->St->Option St
 | [],st=>some st
 |i::r,st=>match ops[i]? with
  |some o=>match stepO P call mu true ops o st with
   |some s=>execI P call mu ops r s
   |none=>none
  |none=>none
theorem execI_cons {ops:Array Oper} {i:Nat} {r:List Nat} {st s':St} (h:execI P call mu ops (i::r) st=some s') : ∃o s,ops[i]?=some o/\stepO P call mu true ops o st=some s/\execI P call mu ops r s=some s':=by
 unfold execI at h
 split at h
 ·rename_i o ho
  split at h
  ·rename_i s hs;exact⟨o,s,ho,hs,h⟩
  ·cases h
 ·cases h
theorem execI_of {ops:Array Oper} {i:Nat} {r:List Nat} {st s s':St} {o:Oper} (ho:ops[i]?=some o) (hs:stepO P call mu true ops o st=some s) (h:execI P call mu ops r s=some s'):execI P call mu ops (i::r) st=some s':=by
 unfold execI
 simp only[ho,hs]
 exact h
theorem mem_ops {ops:Array Oper} {i:Nat} {o:Oper} (h:ops[i]?=some o):o∈ops.toList:=List.mem_of_getElem? (i:=i) (by simpa using h)
theorem to_front (hlk:LookOk call) {ops:Array Oper} {i:Nat} {o:Oper} (hi:ops[i]?=some o) : ∀ {xs ys:List Nat} {st s':St},(∀x∈xs,∀p,ops[x]?=some p->indep ops p o=true) ->
  execI P call mu ops (xs++i::ys) st=some s' -> ∃s,stepO P call mu true ops o st=some s/\execI P call mu ops (xs++ys) s=some s'
 | [],ys,st,s',_,h=>by
  obtain⟨o',s,ho,hs,hr⟩:=execI_cons h
  rw[hi]at ho
  cases ho
  exact⟨s,hs,hr⟩
 |x::xs,ys,st,s',hind,h=>by
  obtain⟨p,s1,hp,hs1,hr⟩:=execI_cons h
  obtain⟨s2,hs2,hr2⟩:=to_front hlk hi (fun y hy=>hind y (List.mem_cons_of_mem _ hy)) hr
  obtain⟨s,hs,hs'⟩:=swap hlk (mem_ops hp) (mem_ops hi) (hind x List.mem_cons_self p hp) hs1 hs2
  exact⟨s,hs,execI_of hp hs' hr2⟩
theorem execI_range {ops:Array Oper} : ∀ {l:List Oper} {k:Nat} {st s:St},ops.toList.drop k=l->execOps P call mu true ops l st=some s->execI P call mu ops (List.range' k l.length) st=some s
 | [],k,st,s,_,h=>by unfold execOps at h;cases h;rfl
 |o::r,k,st,s,hd,h=>by
  unfold execOps at h
  cases e:stepO P call mu true ops o st with
  |none=>rw[e]at h;cases h
  |some s1=>
   rw[e]at h
   have ho:ops[k]?=some o:=by
    have:(ops.toList.drop k)[0]?=some o:=by rw[hd];rfl
    rw[List.getElem?_drop]at this
    simpa using this
   rw[List.length_cons,List.range'_succ]
   refine execI_of ho e (execI_range ?_ h)
   rw[<- List.drop_drop,hd]
   rfl
end
section
variable {P:Program} {w0 w:World} {F I:Nat->Prop} {Z:Zy} {N:Nat} {β:Nat->Nat->Nat} {st:St} {a:Act}
theorem seq_wpOps {call:Callf} (hcall:CallAll P Z.gl call) {mu:FuncId->Bool} {soft:Bool} {ops:Array Oper} (hd : ∀o∈ops.toList,∀d,o.dst=some d->d<N) {Q:Exit->Act->World->Prop} {st':St} (hQ : ∀a' w',To w0 F I Z N st' a' w'->Q .normal a' w') :
  ∀ {l:List Oper} {k:Nat} {st:St} {a:Act} {w:World},ops.toList.drop k=l->execOps P call mu soft ops l st=some st'->To w0 F I Z N st a w->wpOps P ops Q (List.range' k l.length) a w
 | [],k,st,a,w,_,h,hr=>by unfold execOps at h;cases h;exact hQ _ _ hr
 |o::r,k,st,a,w,hdr,h,hr=>by
  unfold execOps at h
  cases e:stepO P call mu soft ops o st with
  |none=>rw[e]at h;cases h
  |some s1=>
   rw[e]at h
   obtain⟨β,hr⟩:=hr
   have ho:ops[k]?=some o:=by
    have:(ops.toList.drop k)[0]?=some o:=by rw[hdr];rfl
    rw[List.getElem?_drop]at this
    simpa using this
   rw[List.length_cons,List.range'_succ,wpOps_cons]
   refine stepO_wpOp hr hcall ho (fun d e=>hd o ?_ d e) e (fun a' w' hto=>seq_wpOps hcall hd hQ ?_ h hto) Q
   ·exact List.mem_of_getElem? (i:=k) (by simpa using ho)
   ·rw[<- List.drop_drop,hdr]
    rfl
def Closed (ops:Array Oper) (listed:Array Bool):Prop := ∀i o,ops[i]?=some o->listed.getD i false=true -> ∀e∈o.after,Region.binds .any e=true->listed.getD e.on false=true
theorem force_eq {α:Type} (n:Nat) (f:Nat->α):force n f=f n:=by cases n<;>rfl
def Beh (ops:Array Oper) (j i:Nat):Prop := ∀listed,Closed ops listed -> ∀y,ops[j]?=some y->(∀e∈y.after,Region.binds .any e=true->listed.getD e.on false=true)->listed.getD i false=true
def GoodRows (ops:Array Oper) (rows:List Nat):Prop := ∀j,j<rows.length -> ∀i,(rows.getD (rows.length-1-j) 0).testBit i=true->Beh ops j i
theorem rowOf_ok {ops:Array Oper} {rows:List Nat} (hg:GoodRows ops rows) {listed:Array Bool} (hc:Closed ops listed) (hl:rows.length<=ops.size) : ∀ {l:List Edge} {i:Nat},(∀e∈l,Region.binds .any e=true->listed.getD e.on false=true) ->
  (rowOf rows l).testBit i=true->listed.getD i false=true
 | [],i,_,h=>by simp[rowOf]at h
 |e::r,i,hd,h=>by
  unfold rowOf at h
  have ih := @rowOf_ok ops rows hg listed hc hl r i (fun e he=>hd e (List.mem_cons_of_mem _ he))
  split at h
  ·rename_i hb
   simp only[Bool.and_eq_true,decide_eq_true_eq]at hb
   have hon:=hd e List.mem_cons_self hb.1
   simp only[Nat.testBit_or,Bool.or_eq_true,Nat.testBit_two_pow,decide_eq_true_eq]at h
   rcases h with rfl|h|h
   ·exact hon
   ·obtain⟨o,ho⟩ : ∃o,ops[e.on]?=some o:=⟨_,Array.getElem?_eq_getElem (by omega)⟩
    exact hg e.on hb.2 i h listed hc o ho (fun e' he' hb'=>hc e.on o ho hon e' he' hb')
   ·exact ih h
  ·exact ih h
theorem rowsOf_ok {ops:Array Oper} : ∀ {l:List Oper} {rows:List Nat},ops.toList.drop rows.length=l->rows.length<=ops.size->GoodRows ops rows->GoodRows ops (rowsOf l rows)/\(rowsOf l rows).length=rows.length+l.length
 | [],rows,_,_,hg=>⟨hg,rfl⟩
 |o::r,rows,hd,hl,hg=>by
  unfold rowsOf
  rw[force_eq]
  have ho:ops[rows.length]?=some o:=by
   have:(ops.toList.drop rows.length)[0]?=some o:=by rw[hd];rfl
   rw[List.getElem?_drop]at this
   simpa using this
  have hlt:=(Array.getElem?_eq_some_iff.1 ho).1
  obtain⟨h1,h2⟩ := @rowsOf_ok ops r (rowOf rows o.after.toList::rows) (by rw[List.length_cons,<- List.drop_drop,hd];rfl) (by simp;omega) (by
   intro j hj i hb
   rw[List.length_cons]at hj hb
   rcases Nat.lt_or_ge j rows.length with hj'|hj'
   ·refine hg j hj' i ?_
    rw[show rows.length+1-1-j=(rows.length-1-j)+1 by omega,List.getD_cons_succ]at hb
    exact hb
   ·have:j=rows.length:=by omega
    subst this
    rw[show rows.length+1-1-rows.length=0 by omega,List.getD_cons_zero]at hb
    intro listed hc y hy hdep
    rw[ho]at hy
    cases hy
    exact rowOf_ok hg hc hl (fun e he=>hdep e (Array.mem_toList_iff.1 he)) hb)
  refine⟨h1,?_⟩
  rw[h2]
  simp
  omega
theorem okRows_at {ops:Array Oper} : ∀ {rows:List Nat} {j:Nat},okRows ops rows=true->j<rows.length->okRow ops j (rows.getD (rows.length-1-j) 0)=true
 |m::r,j,h,hj=>by
  unfold okRows okRowsP at h
  simp only[Bool.and_eq_true]at h
  rw[List.length_cons]at hj ⊢
  rcases Nat.lt_or_ge j r.length with hj'|hj'
  ·rw[show r.length+1-1-j=(r.length-1-j)+1 by omega,List.getD_cons_succ]
   exact okRows_at h.2 hj'
  ·have:j=r.length:=by omega
   subst this
   rw[show r.length+1-1-r.length=0 by omega,List.getD_cons_zero]
   exact h.1
theorem draw_parts {ops:Array Oper} (h:okDraw ops=true) {j:Nat} {y:Oper} (hy:ops[j]?=some y):(∀e∈y.after,Region.binds .any e=true->e.on<j) /\ ∀i,i<j -> ∀x,ops[i]?=some x->Beh ops j i\/indep ops x y=true:=by
 unfold okDraw at h
 have hj:j<ops.size:=(Array.getElem?_eq_some_iff.1 hy).1
 obtain⟨hg,hlen⟩:=rowsOf_ok (ops:=ops) (l:=ops.toList) (rows:=[]) rfl (Nat.zero_le _) (fun j hj=>absurd hj (Nat.not_lt_zero j))
 have hjl:j<(rowsOf ops.toList []).length:=by rw[hlen];simpa using hj
 have:=okRows_at h hjl
 unfold okRow okRowP at this
 rw[hy]at this
 simp only[Bool.and_eq_true]at this
 obtain⟨h1,h2⟩:=this
 refine⟨fun e he hb => ?_,fun i hi x hx => ?_⟩
 ·rw[Array.all_eq_true']at h1
  have:=h1 e he
  rw[hb]at this
  simpa using this
 ·rw[List.all_eq_true]at h2
  have:=h2 i (List.mem_range.2 hi)
  rw[hx]at this
  simp only[Bool.or_eq_true]at this
  rcases this with h|h
  ·left;exact hg j hjl i h
  ·exact .inr h
theorem mem_ready {ops:Array Oper} {listed:Array Bool} {i:Nat} (h:i∈Region.ready .any ops listed):i<ops.size/\listed.getD i true=false /\ ∀o,ops[i]?=some o -> ∀e∈o.after,Region.binds .any e=true->listed.getD e.on false=true:=by
 unfold Region.ready at h
 rw[List.mem_filter]at h
 obtain⟨h1,h2⟩:=h
 have hlt:=List.mem_range.1 h1
 simp only[Bool.and_eq_true,Bool.not_eq_true']at h2
 refine⟨hlt,h2.1,fun o ho e he hb => ?_⟩
 have h3:=h2.2
 rw[ho]at h3
 simp only[Option.map_some,Option.getD_some]at h3
 rw[Array.all_eq_true']at h3
 have:=h3 e he
 rw[hb]at this
 simpa using this
theorem any_wp {call:Callf} (hcall:CallAll P Z.gl call) {mu:FuncId->Bool} {ops:Array Oper} (hd : ∀o∈ops.toList,∀d,o.dst=some d->d<N) (hok:okDraw ops=true) {Q:Exit->Act->World->Prop} {st':St} (hQ : ∀a' w',To w0 F I Z N st' a' w'->Q .normal a' w') :
  ∀ {rest:List Nat} {listed:Array Bool} {st:St} {a:Act} {w:World},Closed ops listed->listed.size=ops.size->rest.Pairwise (· < ·)->(∀i,i∈rest↔i<ops.size/\listed.getD i true=false)->execI P call mu ops rest st=some st'->To w0 F I Z N st a w ->
  wpAny P .any ops Q rest.length listed a w:=by
 intro rest
 generalize hn:rest.length=n
 induction n generalizing rest with
 |zero=>
  intro listed st a w _ hsz _ hmem hex hr
  have h0:rest=[]:=List.eq_nil_of_length_eq_zero hn
  subst h0
  cases hex
  refine⟨?_,hQ _ _ hr⟩
  cases hrd:Region.ready .any ops listed with
  |nil=>rfl
  |cons i r=>
   obtain⟨h1,h2,_⟩:=mem_ready (i:=i) (by rw[hrd];exact List.mem_cons_self)
   have:=(hmem i).2 ⟨h1,h2⟩
   simp at this
 |succ n ih=>
  intro listed st a w hcl hsz hsort hmem hex hr
  refine⟨fun hrd => ?_,fun i hi => ?_⟩
  ·exfalso
   cases rest with
   |nil=>simp at hn
   |cons j r=>
    obtain⟨hj1,hj2⟩:=(hmem j).1 List.mem_cons_self
    have:j∈Region.ready .any ops listed:=by
     unfold Region.ready
     refine List.mem_filter.2 ⟨List.mem_range.2 hj1,?_⟩
     have ho:ops[j]?=some ops[j]:=Array.getElem?_eq_getElem hj1
     simp only[Bool.and_eq_true,Bool.not_eq_true']
     refine⟨hj2,?_⟩
     rw[ho]
     simp only[Option.map_some,Option.getD_some]
     rw[Array.all_eq_true']
     intro e he
     cases hb:Region.binds .any e with
     |false=>rfl
     |true=>
      simp only[Bool.not_true,Bool.false_or]
      have hlt:=(draw_parts hok ho).1 e he hb
      cases hx:listed.getD e.on false with
      |true=>rfl
      |false=>
       exfalso
       have hel:e.on<listed.size:=by omega
       have hx':listed.getD e.on true=false:=by
        rw[Array.getD_eq_getD_getElem?,Array.getElem?_eq_getElem hel]at hx ⊢
        exact hx
       have:=(hmem e.on).2 ⟨by omega,hx'⟩
       rcases List.mem_cons.1 this with h|h
       ·omega
       ·have:=List.rel_of_pairwise_cons hsort h
        omega
    rw[hrd]at this
    simp at this
  ·obtain⟨h1,h2,h3⟩:=mem_ready hi
   have him:=(hmem i).2 ⟨h1,h2⟩
   have ho:ops[i]?=some ops[i]:=Array.getElem?_eq_getElem h1
   obtain⟨xs,ys,hsplit⟩:=List.append_of_mem him
   have hsort':=hsort
   rw[hsplit,List.pairwise_append]at hsort'
   obtain⟨sx,sy,sxy⟩:=hsort'
   have hlt : ∀x∈xs,x<i:=fun x hx=>sxy x hx i List.mem_cons_self
   have hind : ∀x∈xs,∀p,ops[x]?=some p->indep ops p ops[i]=true:=by
    intro x hx p hp
    rcases (draw_parts hok ho).2 x (hlt x hx) p hp with hb|hb
    ·exfalso
     have hl:=hb listed hcl _ ho (h3 _ ho)
     have hxm:=((hmem x).1 (by rw[hsplit];exact List.mem_append_left _ hx)).2
     have hel:x<listed.size:=by
      have:=((hmem x).1 (by rw[hsplit];exact List.mem_append_left _ hx)).1
      omega
     rw[Array.getD_eq_getD_getElem?,Array.getElem?_eq_getElem hel]at hl hxm
     simp only[Option.getD_some]at hl hxm
     rw[hl]at hxm
     cases hxm
    ·exact hb
   rw[hsplit]at hex
   obtain⟨s,hs,hrest⟩:=to_front hcall.2.2.1 ho hind hex
   obtain⟨β,hr⟩:=hr
   refine stepO_wpOp hr hcall ho (fun d e=>hd ops[i] (by simp) d e) hs (fun a' w' hto => ?_) Q
   refine ih (rest:=xs++ys) ?_ ?_ (by simp[hsz]) ?_ (fun k => ?_) hrest hto
   rotate_left
   ·intro j o hj hlj e he hb
    have up : ∀k,listed.getD k false=true->(listed.setIfInBounds i true).getD k false=true:=by
     intro k hk
     rw[Array.getD_eq_getD_getElem?]at hk ⊢
     by_cases hki:k=i
     ·subst hki
      rw[Array.getElem?_setIfInBounds_self_of_lt (by omega)]
      rfl
     ·rw[Array.getElem?_setIfInBounds_ne (fun e=>hki e.symm)]
      exact hk
    by_cases hji:j=i
    ·subst hji
     exact up _ (h3 o hj e he hb)
    ·refine up _ (hcl j o hj ?_ e he hb)
     rw[Array.getD_eq_getD_getElem?]at hlj ⊢
     rw[Array.getElem?_setIfInBounds_ne (fun e=>hji e.symm)]at hlj
     exact hlj
   rotate_right
   ·rw[hsplit]at hn
    simp only[List.length_append,List.length_cons]at hn ⊢
    omega
   ·rw[List.pairwise_append]
    exact⟨sx,(List.pairwise_cons.1 sy).2,fun x hx y hy=>sxy x hx y (List.mem_cons_of_mem _ hy)⟩
   ·have hk:=hmem k
    rw[hsplit]at hk
    have hnx:i∉xs:=fun h=>Nat.lt_irrefl _ (hlt i h)
    have hny:i∉ys:=fun h=>Nat.lt_irrefl _ ((List.pairwise_cons.1 sy).1 i h)
    by_cases hki:k=i
    ·subst hki
     constructor
     ·intro h;rcases List.mem_append.1 h with h|h
      ·exact(hnx h).elim
      ·exact(hny h).elim
     ·rintro⟨_,h⟩
      exfalso
      rw[Array.getD_eq_getD_getElem?,Array.getElem?_setIfInBounds_self_of_lt (by omega)]at h
      cases h
    ·rw[Array.getD_eq_getD_getElem?,Array.getElem?_setIfInBounds_ne (fun e=>hki e.symm),<- Array.getD_eq_getD_getElem?,<- hk]
     simp only[List.mem_append,List.mem_cons,hki,false_or]
end
end Go.Ev
namespace Go.Ev
open Go.RowKit
variable {P:Program} {call:Callf} {mu:FuncId->Bool} {l:Loc} {s s':St}
theorem upd_obj {v:TV}:(s.upd l v).obj=s.obj:=by cases l<;>rfl
theorem upd_gen {v:TV}:(s.upd l v).gen=s.gen:=by cases l<;>rfl
theorem upd_hob {v:TV}:(s.upd l v).hob=s.hob:=by cases l<;>rfl
theorem upd_bm {v:TV}:(s.upd l v).bm=s.bm:=by cases l<;>rfl
theorem upd_bw {v:TV}:(s.upd l v).bw=s.bw:=by cases l<;>rfl
def Loc.off:Loc->Operand->Prop
 | .tmp t,.tmp x=>x≠t
 |_,_=>True
theorem setB_upd {v:TV} {b:Nat} {cs:List SV}:(s.upd l v).setB b cs=(s.setB b cs).upd l v:=by cases l<;>rfl
def Loc.ne:Loc->Option Nat->Prop
 | .tmp t,some d=>d≠t
 |_,_=>True
theorem eval_off {v:TV} {x:Operand} (h:l.off x):(s.upd l v).eval x=s.eval x:=by
 cases l with
 |up i=>cases x<;>rfl
 |tmp t=>cases x with
  |tmp y=>exact if_neg h
  |_=>rfl
theorem map_off {v:TV} {xs:List Operand} (h : ∀x∈xs,l.off x):xs.map (s.upd l v).eval=xs.map s.eval:=List.map_congr_left fun x hx=>eval_off (h x hx)
theorem put_upd {d:Nat} {v w:TV} (h:l.ne (some d)):(s.upd l v).put d w=(s.put d w).upd l v:=by
 cases l with
 |up i=>rfl
 |tmp t=>
  refine St.ext' (fun x => ?_) (fun _ _=>rfl) (fun _=>rfl) rfl rfl
  show (if x=d then w else if x=t then v else s.tmp x)=(if x=t then v else if x=d then w else s.tmp x)
  by_cases h1:x=d
  ·rw[if_pos h1,if_neg (fun e=>h (by rw[<- h1,e])),if_pos h1]
  ·rw[if_neg h1,if_neg h1]
theorem putO_upd {d:Option Nat} {v w:TV} (h:l.ne d):(s.upd l v).putO d w=(s.putO d w).upd l v:=by
 cases d with
 |none=>rfl
 |some d=>exact put_upd h
theorem new_upd {d:Nat} {cs:List SV} {v w:TV} (h:l.ne (some d)):(s.upd l v).new d cs w=(s.new d cs w).upd l v:=by
 cases l with
 |up i=>rfl
 |tmp t=>
  refine St.ext' (fun x => ?_) (fun _ _=>rfl) (fun _=>rfl) rfl rfl
  show (if x=d then w else if x=t then v else s.tmp x)=(if x=t then v else if x=d then w else s.tmp x)
  by_cases h1:x=d
  ·rw[if_pos h1,if_neg (fun e=>h (by rw[<- h1,e])),if_pos h1]
  ·rw[if_neg h1,if_neg h1]
theorem newH_upd {d:Nat} {ts:List TV} {v:TV} (h:l.ne (some d)):(s.upd l v).newH d ts=(s.newH d ts).upd l v:=by
 cases l with
 |up i=>rfl
 |tmp t=>
  refine St.ext' (fun x => ?_) (fun _ _=>rfl) (fun _=>rfl) rfl rfl
  show (if x=d then _ else if x=t then v else s.tmp x)=(if x=t then v else if x=d then _ else s.tmp x)
  by_cases h1:x=d
  ·rw[if_pos h1,if_neg (fun e=>h (by rw[<- h1,e])),if_pos h1]
   rfl
  ·rw[if_neg h1,if_neg h1]
theorem set_upd {d g:Nat} {cs:List SV} {v:TV}:(s.upd l v).set d g cs=(s.set d g cs).upd l v:=by cases l<;>rfl
theorem setH_upd {d g:Nat} {ts:List TV} {v:TV}:(s.upd l v).setH d g ts=(s.setH d g ts).upd l v:=by cases l<;>rfl
theorem frzd_upd {d g:Nat} {cs:List SV} {v:TV}:(s.upd l v).frzd d g cs=(s.frzd d g cs).upd l (v.frz d g cs):=by
 cases l with
 |tmp t=>
  refine St.ext' (fun x => ?_) (fun _ _=>rfl) (fun _=>rfl) rfl rfl
  show TV.frz d g cs (if x=t then v else s.tmp x)=if x=t then v.frz d g cs else (s.tmp x).frz d g cs
  split<;>rfl
 |up i=>
  refine St.ext' (fun _=>rfl) (fun _ _=>rfl) (fun _=>rfl) rfl (funext fun x => ?_)
  show TV.frz d g cs (if x=i then v else s.up x)=if x=i then v.frz d g cs else (s.up x).frz d g cs
  split<;>rfl
theorem grow_upd {d d' g' size n m:Nat} {cs:List SV} {v:TV} (h:l.ne (some d)):(s.upd l v).grow d d' g' size n m cs=(s.grow d d' g' size n m cs).upd l (v.kill d' g'):=by
 cases l with
 |tmp t=>
  refine St.ext' (fun x => ?_) (fun _ _=>rfl) (fun _=>rfl) rfl rfl
  show (if x=d then _ else TV.kill d' g' (if x=t then v else s.tmp x))=if x=t then v.kill d' g' else if x=d then _ else (s.tmp x).kill d' g'
  by_cases h1:x=d
  ·rw[if_pos h1,if_neg (fun e=>h (by rw[<- h1,e])),if_pos h1]
  ·rw[if_neg h1,if_neg h1]
   split<;>rfl
 |up i=>
  refine St.ext' (fun _=>rfl) (fun _ _=>rfl) (fun _=>rfl) rfl (funext fun x => ?_)
  show TV.kill d' g' (if x=i then v else s.up x)=if x=i then v.kill d' g' else (s.up x).kill d' g'
  split<;>rfl
def Eqv (l:Loc) (f:TV->Option St) (s':St):Prop := ∃m:TV->TV,∀v,f v=some (s'.upd l (m v))
theorem eqv_id {f:TV->Option St} {s':St} (h : ∀v,f v=some (s'.upd l v)):Eqv l f s':=⟨id,h⟩
theorem frz_eqv {d g:Nat} (h:s.frz d g=some s'):Eqv l (fun v=>(s.upd l v).frz d g) s':=by
 unfold St.frz at h
 split at h
 ·cases h
 ·rename_i hn
  split at h
  ·rename_i cs ho
   cases h
   refine⟨fun v=>v.frz d g cs,fun v => ?_⟩
   try dsimp only
   unfold St.frz
   rw[if_neg hn,upd_obj,ho]
   exact congrArg some frzd_upd
  ·cases h
theorem frzAll_eqv {vs:List TV} : ∀ {s s':St},frzAll s vs=some s'->Eqv l (fun v=>frzAll (s.upd l v) vs) s':=by
 induction vs with
 |nil=>intro s s' h;unfold frzAll at h;cases h;exact eqv_id fun v=>rfl
 |cons x r ih=>
  intro s s' h
  have go : ∀d g,(match s.obj d g with
    |some _=>match s.frz d g with
     |some st'=>frzAll st' r
     |none=>none
    |none=>frzAll s r)=some s'->Eqv l (fun v=>match (s.upd l v).obj d g with
    |some _=>match (s.upd l v).frz d g with
     |some st'=>frzAll st' r
     |none=>none
    |none=>frzAll (s.upd l v) r) s':=by
   intro d g h
   cases ho:s.obj d g with
   |none=>
    rw[ho]at h
    obtain⟨m,hm⟩:=ih h
    exact⟨m,fun v=>by simp only[upd_obj,ho];exact hm v⟩
   |some cs=>
    rw[ho]at h
    dsimp only at h
    split at h
    ·rename_i s1 hf
     obtain⟨m,hm⟩:=frz_eqv (l:=l) hf
     obtain⟨m2,hm2⟩:=ih h
     refine⟨fun v=>m2 (m v),fun v => ?_⟩
     have e:=hm v
     dsimp only at e
     simp only[upd_obj,ho]
     rw[e]
     exact hm2 _
    ·cases h
  cases x with
  |ptr d g o=>exact go d g h
  |ref d g a b c=>exact go d g h
  |_=>exact ih (s:=s) h
theorem parts_off {v:TV} {ps:List (Nat×Operand)} (h : ∀p∈ps,l.off p.2):partsSV (s.upd l v) ps=partsSV s ps:=parts_congr fun p hp=>eval_off (h p hp)
theorem litC_off {v:TV} {t n:Nat} {ps:Array (Nat×Operand)} (h : ∀p∈ps.toList,l.off p.2):litC P (s.upd l v) t n ps=litC P s t n ps:=by
 unfold litC
 rw[parts_off h]
theorem val_off {v:TV} {op:Op} (h : ∀x∈op.operands,l.off x):val P (s.upd l v) op=val P s op:=
 val_congr (fun x hx=>eval_off (h x hx)) (fun _ _ _=>by rw[upd_obj]) ⟨upd_hob,upd_bm,upd_bw⟩
theorem appendTo_eqv {d size m:Nat} {new:List SV} {x:TV} (h:appendTo s d size m new x=some s') (hd:l.ne (some d)):Eqv l (fun v=>appendTo (s.upd l v) d size m new x) s':=by
 unfold appendTo at h
 unfold appendTo
 cases x with
 |nil=>
  dsimp only at h ⊢
  split at h
  ·rename_i c;cases h;exact eqv_id fun v=>by simp only[if_pos c,put_upd hd]
  ·rename_i c
   split at h
   ·rename_i c2;cases h;exact eqv_id fun v=>by simp only[if_neg c,if_pos c2,upd_gen,new_upd hd]
   ·cases h
 |ref d' g' sz off n=>
  dsimp only at h ⊢
  split at h
  ·rename_i c;cases h;exact eqv_id fun v=>by simp only[if_pos c,put_upd hd]
  ·rename_i c
   split at h
   ·rename_i c2
    split at h
    ·rename_i cs ho
     split at h
     ·rename_i c3;cases h;exact⟨fun v=>v.kill d' g',fun v=>by simp only[if_neg c,if_pos c2,upd_obj,ho,if_pos c3,grow_upd hd]⟩
     ·cases h
    ·cases h
   ·cases h
 |rfc d' g' sz off n c0=>
  dsimp only at h ⊢
  split at h
  ·rename_i c;cases h;exact eqv_id fun v=>by simp only[if_pos c,put_upd hd]
  ·rename_i c
   split at h
   ·rename_i c2
    split at h
    ·rename_i cs ho
     split at h
     ·rename_i c3
      split at h
      ·rename_i c4;cases h;exact eqv_id fun v=>by simp only[if_neg c,if_pos c2,upd_obj,ho,if_pos c3,if_pos c4,set_upd,put_upd hd]
      ·rename_i c4;cases h;exact eqv_id fun v=>by simp only[if_neg c,if_pos c2,upd_obj,upd_gen,ho,if_pos c3,if_neg c4,new_upd hd]
     ·cases h
    ·cases h
   ·cases h
 |_=>cases h
theorem moreOf_upd {size:Nat} {x:TV} {v:TV}:moreOf (s.upd l v) size x=moreOf s size x:=by
 unfold moreOf
 cases x with
 |ref d g sz off m=>simp only[upd_obj]
 |rfc d g sz off m c=>simp only[upd_obj]
 |sv x=>rw[upd_bm];cases x<;>first|rfl|(rename_i v;cases v<;>first|rfl|(rename_i A _ _;cases A<;>first|rfl|(rename_i q;obtain⟨b,off,sp⟩:=q;cases sp<;>rfl)))
 |_=>rfl
theorem append_eqv {dst:Option Nat} {t:TypeId} {a b:Operand} (h:append P dst s t a b=some s') (ha:l.off a) (hb:l.off b) (hd:l.ne dst):Eqv l (fun v=>append P dst (s.upd l v) t a b) s':=by
 unfold append at h
 split at h
 ·rename_i e size bytes d he
  split at h
  ·rename_i m new hm
   split at h
   ·rename_i hc
    obtain⟨M,hM⟩:=appendTo_eqv h hd
    refine⟨M,fun v => ?_⟩
    try dsimp only
    unfold append
    simp only[he,eval_off ha,eval_off hb,moreOf_upd,hm]
    rw[if_pos hc]
    exact hM v
   ·cases h
  ·cases h
 ·cases h
theorem appendZ_eqv {dst:Option Nat} {t t':TypeId} {a b:Operand} (h:appendZ P dst s t t' a b=some s') (ha:l.off a) (hb:l.off b) (hd:l.ne dst):Eqv l (fun v=>appendZ P dst (s.upd l v) t t' a b) s':=by
 unfold appendZ at h
 split at h
 ·rename_i e size bytes d k m d' g' sz off n c he hk hm hx
  split at h
  ·rename_i cs z ho hz
   split at h
   ·rename_i hc
    cases h
    refine eqv_id fun v => ?_
    try dsimp only
    unfold appendZ
    simp only[he,hk,eval_off ha,eval_off hb,hm,hx,upd_obj,ho,hz]
    rw[if_pos hc,upd_gen,new_upd hd]
   ·cases h
  ·cases h
 ·cases h
theorem clearS_eqv {t:TypeId} {x:Operand} (h:clearS P s t x=some s') (hx:l.off x):Eqv l (fun v=>clearS P (s.upd l v) t x) s':=by
 unfold clearS at h
 split at h
 ·rename_i e size b d g sz off n c he hv
  split at h
  ·rename_i cs z ho hz
   split at h
   ·rename_i hc
    cases h
    refine eqv_id fun v => ?_
    try dsimp only
    unfold clearS
    simp only[he,eval_off hx,hv,upd_obj,ho,hz]
    rw[if_pos hc,set_upd]
   ·cases h
  ·cases h
 ·cases h
theorem copy_eqv {dst:Option Nat} {t:TypeId} {a b:Operand} (h:copy P dst s t a b=some s') (ha:l.off a) (hb:l.off b) (hd:l.ne dst):Eqv l (fun v=>copy P dst (s.upd l v) t a b) s':=by
 unfold copy at h
 split at h
 ·rename_i e size by0 d g sz off n c he hv
  split at h
  ·rename_i m new cs hm ho
   split at h
   ·rename_i hc
    cases h
    refine eqv_id fun v => ?_
    try dsimp only
    unfold copy
    simp only[he,eval_off ha,eval_off hb,hv,moreOf_upd,hm,upd_obj,ho]
    rw[if_pos hc,set_upd,putO_upd hd]
   ·cases h
  ·cases h
 ·rename_i e size by0 d g sz off n he hv
  split at h
  ·rename_i m new cs hm ho
   split at h
   ·rename_i hc
    cases h
    refine eqv_id fun v => ?_
    try dsimp only
    unfold copy
    simp only[he,eval_off ha,eval_off hb,hv,moreOf_upd,hm,upd_obj,ho]
    rw[if_pos hc,set_upd,putO_upd hd]
   ·cases h
  ·cases h
 ·cases h
theorem store_eqv {soft:Bool} {t:TypeId} {a x:Operand} (h:store P soft s t a x=some s') (ha:l.off a) (hx:l.off x):Eqv l (fun v=>store P soft (s.upd l v) t a x) s':=by
 unfold store at h
 split at h
 ·rename_i b size d g off hsh hp
  split at h
  ·rename_i hH
   split at h
   ·rename_i ts ho
    split at h
    ·rename_i hc
     cases h
     refine eqv_id fun v => ?_
     try dsimp only
     unfold store
     simp only[hsh,eval_off ha,eval_off hx,hp,upd_hob,ho]
     rw[if_pos hH,if_pos hc,setH_upd]
    ·cases h
   ·cases h
  ·rename_i hH
   split at h
   ·rename_i y hy
    split at h
    ·rename_i cs ho
     split at h
     ·rename_i hc
      cases h
      refine eqv_id fun v => ?_
      try dsimp only
      unfold store
      simp only[hsh,eval_off ha,eval_off hx,hp,hy,upd_obj,ho]
      rw[if_neg hH,if_pos hc,set_upd]
     ·cases h
    ·cases h
   ·rename_i hy
    split at h
    ·cases h
    ·rename_i hs
     split at h
     ·rename_i d' g' a1 a2 a3 hv
      split at h
      ·cases h
      ·rename_i hne
       split at h
       ·rename_i s1 hf
        obtain⟨m,hm⟩:=frz_eqv (l:=l) hf
        split at h
        ·rename_i y cs hy2 ho
         split at h
         ·rename_i hc
          cases h
          refine⟨m,fun v => ?_⟩
          try dsimp only
          unfold store
          rw[hv]at hy
          simp only[hsh,eval_off ha,eval_off hx,hp,hv,hy,hm v,hy2,upd_obj,ho]
          rw[if_neg hH,if_neg hs,if_neg hne,if_pos hc,set_upd]
         ·cases h
        ·cases h
       ·cases h
     ·cases h
 ·rename_i tb size b off hsh hp
  split at h
  ·rename_i cs y hc hy
   split at h
   ·rename_i hk
    cases h
    refine eqv_id fun v => ?_
    try dsimp only
    unfold store
    simp only[hsh,eval_off ha,eval_off hx,hp,upd_bm,hc,hy,upd_bw]
    rw[if_pos hk,setB_upd]
   ·cases h
  ·cases h
 ·cases h
theorem frzV_eqv {dst:Option Nat} {op:Op} (h:frzV P dst s op=some s') (hr : ∀x∈op.operands,l.off x) (hd:l.ne dst):Eqv l (fun v=>frzV P dst (s.upd l v) op) s':=by
 have go : ∀ (vs:List TV) (us:List Operand),us.map s.eval=vs->(∀x∈us,l.off x)->(match frzAll s vs with
   |some st'=>match val P st' op with
    |some v=>some (st'.putO dst v)
    |none=>none
   |none=>none)=some s'->Eqv l (fun v=>match frzAll (s.upd l v) (us.map (s.upd l v).eval) with
   |some st'=>match val P st' op with
    |some v=>some (st'.putO dst v)
    |none=>none
   |none=>none) s':=by
  intro vs us hvs hus h
  subst hvs
  split at h
  ·rename_i s1 hf
   obtain⟨m,hm⟩:=frzAll_eqv (l:=l) hf
   split at h
   ·rename_i w hv
    cases h
    refine⟨m,fun v => ?_⟩
    try dsimp only
    simp only[map_off hus,hm v,val_off hr,hv]
    rw[putO_upd hd]
   ·cases h
  ·cases h
 cases op with
 |build t ps=>
  have h2:=go (ps.toList.map fun p:Nat×Operand=>s.eval p.2) (ps.toList.map fun p:Nat×Operand=>p.2) (by rw[List.map_map];rfl) (fun x hx=>by
   obtain⟨p,hp,rfl⟩:=List.mem_map.1 hx
   exact hr _ (by simp only[Op.operands,List.mem_toArray,List.mem_map];exact⟨p,hp,rfl⟩)) h
  simp only[List.map_map]at h2
  exact h2
 |makeFunc f first cap=>exact go (cap.toList.map s.eval) cap.toList rfl (fun x hx=>hr x (by simp[Op.operands];exact .inr (by simpa using hx))) h
 |convert a b x=>exact go [s.eval x] [x] rfl (fun y hy=>hr y (by simpa[Op.operands]using hy)) h
 |_=>cases h
theorem hard_eqv {dst:Option Nat} {op:Op} (h:hard P dst s op=some s') (hr : ∀x∈op.operands,l.off x) (hd:l.ne dst):Eqv l (fun v=>hard P dst (s.upd l v) op) s':=by
 cases dst with
 |none=>cases op<;>cases h
 |some d=>
  cases op with
  |alloc t=>
   simp only[hard]at h ⊢
   split at h
   ·rename_i cs hz
    cases h
    refine eqv_id fun v => ?_
    simp only[upd_gen]
    rw[new_upd hd]
   ·cases h
  |box t x=>
   have hx:l.off x:=hr x (by simp[Op.operands])
   simp only[hard]at h ⊢
   split at h
   ·rename_i y hy
    split at h
    ·rename_i hc
     cases h
     refine eqv_id fun v => ?_
     simp only[eval_off hx,hy,upd_gen]
     rw[if_pos hc,new_upd hd]
    ·rename_i hc
     split at h
     ·rename_i ts hts
      cases h
      refine eqv_id fun v => ?_
      simp only[eval_off hx,hy,hts]
      rw[if_neg hc,newH_upd hd]
     ·cases h
   ·rename_i hy
    split at h
    ·rename_i d' g' hp
     cases h
     refine eqv_id fun v => ?_
     simp only[eval_off hx,hp,TV.toSV]
     rw[newH_upd hd]
    ·cases h
  |buildSlice t n ps=>
   have hps : ∀p∈ps.toList,l.off p.2:=fun p hp=>hr _ (by simp only[Op.operands,List.mem_toArray,List.mem_map];exact⟨p,hp,rfl⟩)
   have hmap : ∀v,(ps.toList.map fun p=>(s.upd l v).eval p.2)=ps.toList.map fun p=>s.eval p.2:=fun v=>List.map_congr_left fun p hp=>eval_off (hps p hp)
   simp only[hard]at h ⊢
   split at h
   ·rename_i size cs hl
    cases h
    refine eqv_id fun v => ?_
    simp only[litC_off hps,hl,upd_gen]
    rw[new_upd hd]
   ·rename_i hl
    split at h
    ·rename_i s1 hf
     obtain⟨m,hm⟩:=frzAll_eqv (l:=l) hf
     split at h
     ·rename_i size cs hl2
      cases h
      refine⟨m,fun v => ?_⟩
      have e:=hm v
      dsimp only at e
      simp only[litC_off hps,hl,hmap]
      rw[e]
      simp only[litC_off hps,hl2,upd_gen]
      rw[new_upd hd]
     ·cases h
    ·cases h
  |makeSlice t a b=>
   have ha:l.off a:=hr a (by simp[Op.operands])
   have hb:l.off b:=hr b (by simp[Op.operands])
   simp only[hard]at h ⊢
   split at h
   ·rename_i e size bytes he
    split at h
    ·rename_i n m z hn hm hz
     split at h
     ·rename_i hc
      cases h
      refine eqv_id fun v => ?_
      simp only[eval_off ha,eval_off hb,hn,hm,hz,upd_gen]
      rw[if_pos hc,new_upd hd]
     ·cases h
    ·cases h
   ·cases h
  |_=>cases h
theorem afterCall_eqv {soft:Bool} {dst:Option Nat} {x:Option (Ret×List (Option (List SV)))} (h:afterCall soft dst s x=some s') (hd:l.ne dst):Eqv l (fun v=>afterCall soft dst (s.upd l v) x) s':=by
 cases x with
 |none=>cases h
 |some x=>
  obtain⟨r,e⟩:=x
  cases r with
  |sv r=>cases h;exact eqv_id fun v=>by simp only[afterCall,putO_upd hd]
  |obj cs=>
   simp only[afterCall]at h ⊢
   split at h
   ·cases h
   ·rename_i hs
    split at h
    ·rename_i d;cases h;exact eqv_id fun v=>by rw[if_neg hs];simp only[upd_gen];rw[new_upd hd]
    ·cases h
  |row cs size off n=>
   simp only[afterCall]at h ⊢
   split at h
   ·rename_i hs
    cases h;exact eqv_id fun v=>by rw[if_pos hs,putO_upd hd]
   ·rename_i hs
    split at h
    ·rename_i d;cases h;exact eqv_id fun v=>by rw[if_neg hs];simp only[upd_gen];rw[new_upd hd]
    ·cases h
  |heap ts=>
   simp only[afterCall]at h ⊢
   split at h
   ·cases h
   ·rename_i hs
    split at h
    ·rename_i d;cases h;exact eqv_id fun v=>by rw[if_neg hs];exact congrArg some (newH_upd hd)
    ·cases h
  |st a b=>cases h
theorem inCall_eqv (hc:EqCall call) {dst:Option Nat} {g:FuncId} {caps:List SV} {vs:List TV} (h:inCall call dst g caps vs s=some s') (hd:l.ne dst):Eqv l (fun v=>inCall call dst g caps vs (s.upd l v)) s':=by
 unfold inCall at h
 split at h
 ·rename_i s1 r e hx
  cases h
  obtain⟨m,hm⟩:=hc _ _ _ _ _ _ hx l
  refine⟨m,fun v => ?_⟩
  unfold inCall
  show (match call g [.st false (s.upd l v) (vs++caps.map TV.sv)]with|some (.st st' r,_)=>some (st'.putO dst r)|_=>none)=_
  rw[hm v]
  exact congrArg some (putO_upd hd)
 ·cases h
theorem inLook_eqv (hc:EqCall call) {dst:Option Nat} {g:FuncId} {caps:List SV} {vs:List TV} (h:inLook call dst g caps vs s=some s') (hd:l.ne dst):Eqv l (fun v=>inLook call dst g caps vs (s.upd l v)) s':=by
 unfold inLook at h
 split at h
 ·rename_i r e hx
  cases h
  obtain⟨m,hm⟩:=hc _ _ _ _ _ _ hx l
  refine eqv_id fun v => ?_
  unfold inLook
  show (match call g [.st true (s.upd l v) (vs++caps.map TV.sv)]with|some (.sv r,_)=>some ((s.upd l v).putO dst (.sv r))|_=>none)=_
  rw[hm v]
  exact congrArg some (putO_upd hd)
 ·cases h
theorem roCall_eqv {dst:Option Nat} {g:FuncId} {caps:List SV} {vs:List TV} (h:roCall call mu dst g caps vs s=some s') (hd:l.ne dst):Eqv l (fun v=>roCall call mu dst g caps vs (s.upd l v)) s':=by
 obtain⟨x,d,g',r,rfl,rfl,_,k⟩:=roCall_eff h
 exact eqv_id fun v=>(k (s.upd l v) (by rw[upd_obj])).trans (congrArg some (putO_upd hd))
theorem impArgs_upd {v:TV} : ∀ {vs:List TV},impArgs (s.upd l v) vs=impArgs s vs
 | []=>rfl
 |x::r=>by
  unfold impArgs
  rw[impArgs_upd (vs:=r)]
  simp only[upd_obj]
theorem expAll_eqv {vs:List TV} : ∀ {es:List (Option (List SV))} {s s':St},expAll s vs es=some s' -> ∀v,expAll (s.upd l v) vs es=some (s'.upd l v):=by
 induction vs with
 |nil=>
  intro es s s' h v
  cases es with
  |nil=>cases h;rfl
  |cons e r=>cases h
 |cons x vs ih=>
  intro es s s' h v
  cases es with
  |nil=>cases x<;>cases h
  |cons e r=>
   cases x with
   |ptr d g o=>cases e with
    |none=>cases h
    |some cs=>
     have:=ih (s:=s.set d g cs) h v
     rw[<- set_upd]at this
     exact this
   |ref d g a b c=>cases e with
    |none=>cases h
    |some cs=>
     have:=ih (s:=s.set d g cs) h v
     rw[<- set_upd]at this
     exact this
   |rfc d g a b c f=>cases e<;>cases h
   |pst d g=>cases e<;>cases h
   |tp d g a b c f=>cases e<;>cases h
   |_=>cases e with
    |none=>exact ih (s:=s) h v
    |some cs=>cases h
theorem borCall_eqv (hc:EqCall call) {soft:Bool} {dst:Option Nat} {g:FuncId} {ss:List SV} (h:borCall call mu soft dst g ss s=some s') (hd:l.ne dst):Eqv l (fun v=>borCall call mu soft dst g ss (s.upd l v)) s':=by
 unfold borCall at h
 split at h
 ·rename_i hb
  obtain⟨m,hm⟩:=inCall_eqv hc h hd
  refine⟨m,fun v => ?_⟩
  dsimp only
  unfold borCall
  rw[upd_bw,if_pos hb]
  exact hm v
 ·rename_i hb
  obtain⟨m,hm⟩:=afterCall_eqv h hd
  refine⟨m,fun v => ?_⟩
  dsimp only
  unfold borCall
  rw[upd_bw,if_neg hb]
  exact hm v
theorem acall_eqv (hc:EqCall call) {soft:Bool} {dst:Option Nat} {f:Operand} {args:List Operand} (h:acall call mu soft dst f args s=some s') (hf:l.off f) (ha : ∀x∈args,l.off x) (hd:l.ne dst):Eqv l (fun v=>acall call mu soft dst f args (s.upd l v)) s':=by
 unfold acall at h
 split at h
 ·rename_i g caps hg
  split at h
  ·rename_i ss hss
   obtain⟨m,hm⟩:=borCall_eqv hc h hd
   refine⟨m,fun v => ?_⟩
   unfold acall
   simp only[eval_off hf,hg,map_off ha,hss]
   exact hm v
  ·rename_i hss
   split at h
   ·rename_i hso
    split at h
    ·rename_i hi
     obtain⟨m,hm⟩:=inLook_eqv hc h hd
     refine⟨m,fun v => ?_⟩
     unfold acall
     simp only[eval_off hf,hg,map_off ha,hss]
     rw[if_pos hso,if_pos hi]
     exact hm v
    ·rename_i hi
     obtain⟨m,hm⟩:=roCall_eqv h hd
     refine⟨m,fun v => ?_⟩
     unfold acall
     simp only[eval_off hf,hg,map_off ha,hss]
     rw[if_pos hso,if_neg hi]
     exact hm v
   ·rename_i hso
    split at h
    ·rename_i hmu
     split at h
     ·rename_i hi
      obtain⟨m,hm⟩:=inCall_eqv hc h hd
      refine⟨m,fun v => ?_⟩
      unfold acall
      simp only[eval_off hf,hg,map_off ha,hss]
      rw[if_neg hso,if_pos hmu,if_pos hi]
      exact hm v
     ·rename_i hi
      split at h
      ·rename_i hdi
       split at h
       ·rename_i ars hars
        split at h
        ·rename_i r exps hcall
         split at h
         ·rename_i s1 hex
          split at h
          ·rename_i x
           cases h
           refine eqv_id fun v => ?_
           unfold acall
           simp only[eval_off hf,hg,map_off ha,hss]
           rw[if_neg hso,if_pos hmu,if_neg hi,if_pos hdi,impArgs_upd,hars]
           simp only[hcall,expAll_eqv hex v]
           rw[putO_upd hd]
          ·cases h
         ·cases h
        ·cases h
       ·cases h
      ·cases h
    ·rename_i hmu
     split at h
     ·rename_i s1 hfz
      split at h
      ·rename_i ss hss2
       obtain⟨m,hm⟩:=frzAll_eqv (l:=l) hfz
       obtain⟨m2,hm2⟩:=borCall_eqv hc h hd
       refine⟨fun v=>m2 (m v),fun v => ?_⟩
       have e:=hm v
       dsimp only at e
       unfold acall
       simp only[eval_off hf,hg,map_off ha,hss]
       rw[if_neg hso,if_neg hmu,e]
       simp only[map_off ha,hss2]
       exact hm2 (m v)
      ·cases h
     ·cases h
 ·cases h
theorem rest_eqv {soft:Bool} {dst:Option Nat} {op:Op} (h:(match val P s op with
   |some v=>some (s.putO dst v)
   |none=>if soft then none else frzV P dst s op)=some s') (hr : ∀x∈op.operands,l.off x) (hd:l.ne dst):Eqv l (fun v=>match val P (s.upd l v) op with
   |some w=>some ((s.upd l v).putO dst w)
   |none=>if soft then none else frzV P dst (s.upd l v) op) s':=by
 split at h
 ·rename_i w hv
  cases h
  refine eqv_id fun v => ?_
  simp only[val_off hr,hv]
  rw[putO_upd hd]
 ·rename_i hv
  split at h
  ·cases h
  ·rename_i hs
   obtain⟨m,hm⟩:=frzV_eqv h hr hd
   refine⟨m,fun v => ?_⟩
   simp only[val_off hr,hv]
   rw[if_neg hs]
   exact hm v
theorem rest_eqv' {soft:Bool} {dst:Option Nat} {op:Op} (h:step P call mu soft dst op s=some s') (e : ∀s,step P call mu soft dst op s=(match val P s op with
   |some v=>some (s.putO dst v)
   |none=>if soft then none else frzV P dst s op)) (hr : ∀x∈op.operands,l.off x) (hd:l.ne dst):Eqv l (fun v=>step P call mu soft dst op (s.upd l v)) s':=by
 rw[e]at h
 obtain⟨m,hm⟩:=rest_eqv h hr hd
 exact⟨m,fun v=>(e _).trans (hm v)⟩
theorem step_eqv (hc:EqCall call) {soft:Bool} {dst:Option Nat} {op:Op} (h:step P call mu soft dst op s=some s') (hr : ∀x∈op.operands,l.off x) (hd:l.ne dst):Eqv l (fun v=>step P call mu soft dst op (s.upd l v)) s':=by
 cases op with
 |call c=>
  obtain⟨callee,args,tys⟩:=c
  cases callee with
  |value f=>exact acall_eqv hc h (hr f (by simp[Op.operands,Call.operands])) (fun x hx=>hr x (by simp[Op.operands,Call.operands];exact .inr (by simpa using hx))) hd
  |invoke r m=>exact rest_eqv' h (fun _=>rfl) hr hd
  |builtin b=>
   have hx : ∀x∈args.toList,l.off x:=fun x hx=>hr x (by simp[Op.operands,Call.operands];simpa using hx)
   cases b with
   |append=>
    unfold step at h ⊢
    dsimp only at h ⊢
    split at h
    ·rename_i a b t t' he ht
     have ha:l.off a:=hx a (by rw[he];simp)
     have hb:l.off b:=hx b (by rw[he];simp)
     split at h
     ·rename_i htt
      obtain⟨m,hm⟩:=append_eqv h ha hb hd
      exact⟨m,fun v=>(if_pos htt).trans (hm v)⟩
     ·rename_i htt
      obtain⟨m,hm⟩:=appendZ_eqv h ha hb hd
      exact⟨m,fun v=>(if_neg htt).trans (hm v)⟩
    ·cases h
   |clear=>
    unfold step at h ⊢
    dsimp only at h ⊢
    split at h
    ·rename_i a t he ht
     have ha:l.off a:=hx a (by rw[he];simp)
     split at h
     ·cases h
     ·rename_i hn
      obtain⟨m,hm⟩:=clearS_eqv h ha
      exact⟨m,fun v=>(if_neg hn).trans (hm v)⟩
    ·cases h
   |copy=>
    unfold step at h ⊢
    dsimp only at h ⊢
    split at h
    ·rename_i a b t r he ht
     have ha:l.off a:=hx a (by rw[he];simp)
     have hb:l.off b:=hx b (by rw[he];simp)
     exact copy_eqv h ha hb hd
    ·cases h
   |_=>exact rest_eqv' h (fun _=>rfl) hr hd
 |store t a x=>
  unfold step at h ⊢
  dsimp only at h ⊢
  split at h
  ·cases h
  ·rename_i hn
   obtain⟨m,hm⟩:=store_eqv h (hr a (by simp[Op.operands])) (hr x (by simp[Op.operands]))
   exact⟨m,fun v=>(if_neg hn).trans (hm v)⟩
 |alloc t=>exact hard_eqv h hr hd
 |box t x=>exact hard_eqv h hr hd
 |buildSlice t n ps=>
  unfold step at h ⊢
  dsimp only at h ⊢
  split at h
  ·rename_i hs
   split at h
   ·rename_i size cs hl
    cases h
    refine eqv_id fun v => ?_
    rw[if_pos hs,litC_off (fun p hp=>hr _ (by simp only[Op.operands,List.mem_toArray,List.mem_map];exact⟨p,hp,rfl⟩)),hl]
    dsimp only
    rw[putO_upd hd]
   ·cases h
  ·rename_i hs
   obtain⟨m,hm⟩:=hard_eqv h hr hd
   exact⟨m,fun v=>(if_neg hs).trans (hm v)⟩
 |makeSlice t a b=>exact hard_eqv h hr hd
 |_=>exact rest_eqv' h (fun _=>rfl) hr hd
theorem acallS_eqv (hc:EqCall call) {dst:Option Nat} {f:Operand} {args:List Operand} (h:acallS call mu dst f args s=some s') (hf:l.off f) (ha : ∀x∈args,l.off x) (hd:l.ne dst):Eqv l (fun v=>acallS call mu dst f args (s.upd l v)) s':=by
 unfold acallS at h
 split at h
 ·rename_i g caps hg
  split at h
  ·rename_i ss hss
   obtain⟨m,hm⟩:=afterCall_eqv h hd
   refine⟨m,fun v => ?_⟩
   unfold acallS
   simp only[eval_off hf,hg,map_off ha,hss]
   exact hm v
  ·rename_i hss
   split at h
   ·rename_i hi
    obtain⟨m,hm⟩:=inCall_eqv hc h hd
    refine⟨m,fun v => ?_⟩
    unfold acallS
    simp only[eval_off hf,hg,map_off ha,hss]
    rw[if_pos hi]
    exact hm v
   ·cases h
 ·cases h
theorem stepV_eqv (hc:EqCall call) {dst:Option Nat} {op:Op} (h:stepV call mu dst op s=some s') (hr : ∀x∈op.operands,l.off x) (hd:l.ne dst):Eqv l (fun v=>stepV call mu dst op (s.upd l v)) s':=by
 cases op with
 |call c=>
  obtain⟨callee,args,tys⟩:=c
  cases callee with
  |value f=>exact acallS_eqv hc h (hr f (by simp[Op.operands,Call.operands])) (fun x hx=>hr x (by simp[Op.operands,Call.operands];exact .inr (by simpa using hx))) hd
  |invoke r m=>cases h
  |builtin b=>cases h
 |_=>cases h
theorem adr_off {v:TV} {op:Op} (hr : ∀x∈op.operands,l.off x):adrOp (s.upd l v) op=adrOp s op:=by
 cases op with
 |load t x=>exact congrArg TV.adr (eval_off (hr x (by simp[Op.operands])))
 |store t x y=>exact congrArg TV.adr (eval_off (hr x (by simp[Op.operands])))
 |call c=>
  obtain⟨callee,args,tys⟩:=c
  cases callee with
  |value f=>
   unfold adrOp
   dsimp only
   cases e:args.toList with
   |nil=>rfl
   |cons x r=>
    dsimp only
    rw[eval_off (hr x (by simp[Op.operands,Call.operands];exact .inr (Array.mem_toList_iff.1 (by rw[e];exact List.mem_cons_self))))]
  |invoke r m=>rfl
  |builtin b=>rfl
 |_=>rfl
theorem stepS_eqv (hc:EqCall call) {soft:Bool} {ops:Array Oper} {dst:Option Nat} {op:Op} (h:stepS P call mu soft ops dst op s=some s') (hr : ∀x∈op.operands,l.off x) (hd:l.ne dst):Eqv l (fun v=>stepS P call mu soft ops dst op (s.upd l v)) s':=by
 unfold stepS at h
 split at h
 ·rename_i hv
  obtain⟨m,hm⟩:=stepV_eqv hc h hr hd
  exact⟨m,fun v=>(if_pos hv).trans (hm v)⟩
 ·rename_i hv
  split at h
  ·cases h
  ·rename_i hl
   obtain⟨m,hm⟩:=step_eqv hc h hr hd
   refine⟨m,fun v=>(if_neg hv).trans ?_⟩
   rw[adr_off hr,if_neg hl]
   exact hm v
theorem off_of {ops:Array Oper} {o:Oper} (hr : ∀t∈readsOf ops o,l ≠ .tmp t) : ∀x∈o.op.operands,l.off x:=by
 intro x hx
 cases l with
 |up i=>cases x<;>trivial
 |tmp t=>
  cases x with
  |tmp y=>
   intro e
   subst e
   exact hr y (List.mem_append_left _ (List.mem_filterMap.2 ⟨.tmp y,by simpa using hx,rfl⟩)) rfl
  |_=>trivial
theorem stepO_eqv (hc:EqCall call) {soft:Bool} {ops:Array Oper} {o:Oper} (h:stepO P call mu soft ops o s=some s') (hr : ∀t∈readsOf ops o,l ≠ .tmp t) (hd:l.ne o.dst):Eqv l (fun v=>stepO P call mu soft ops o (s.upd l v)) s':=by
 have ho:=off_of hr
 unfold stepO at h
 split at h
 ·rename_i hg
  obtain⟨m,hm⟩:=stepS_eqv hc h ho hd
  refine⟨m,fun v => ?_⟩
  unfold stepO
  simp only[hg]
  exact hm v
 ·rename_i j want hg
  split at h
  ·rename_i t ht
   have htm : ∀v,(s.upd l v).tmp t=s.tmp t:=fun v=>eval_off (x := .tmp t) (by
    cases l with
    |up i=>trivial
    |tmp y=>
     intro e
     subst e
     refine hr t (List.mem_append_right _ ?_) rfl
     rw[hg]
     simp[ht])
   split at h
   ·rename_i b hb
    split at h
    ·rename_i hw
     obtain⟨m,hm⟩:=stepS_eqv hc h ho hd
     refine⟨m,fun v => ?_⟩
     unfold stepO
     simp only[hg,ht,htm,hb]
     rw[if_pos hw]
     exact hm v
    ·rename_i hw
     cases h
     refine eqv_id fun v => ?_
     unfold stepO
     simp only[hg,ht,htm,hb]
     rw[if_neg hw,putO_upd hd]
   ·rename_i hb
    cases h
    refine eqv_id fun v => ?_
    unfold stepO
    simp only[hg,ht,htm,hb]
    rw[putO_upd hd]
   ·cases h
  ·cases h
theorem valX_off {v:TV} {op:Op} (h : ∀x∈op.operands,l.off x):valX P (s.upd l v) op=valX P s op:=by
 unfold valX
 split
 ·rename_i t n parts
  rw[litC_off (fun p hp=>h _ (by simp only[Op.operands,List.mem_toArray,List.mem_map];exact⟨p,hp,rfl⟩))]
 ·rename_i args tys
  split
  ·rename_i a x t t' ha ht
   have hx : ∀x∈args.toList,l.off x:=fun x hx=>h x (by simp[Op.operands,Call.operands];simpa using hx)
   have e1:(s.upd l v).eval a=s.eval a:=eval_off (hx a (by rw[ha];simp))
   have e2:(s.upd l v).eval x=s.eval x:=eval_off (hx x (by rw[ha];simp))
   rw[e1,e2]
   simp only[moreOf_upd]
  ·rfl
 ·exact val_off h
 ·rfl
theorem stepC_eqv (hc:EqCall call) {ops:Array Oper} {o:Oper} (h:stepC P call mu ops o s=some s') (hr : ∀t∈readsOf ops o,l ≠ .tmp t) (hd:l.ne o.dst):Eqv l (fun v=>stepC P call mu ops o (s.upd l v)) s':=by
 unfold stepC at h
 split at h
 ·rename_i hs
  unfold stepX at h
  split at h
  ·rename_i w hw
   cases h
   refine eqv_id fun v => ?_
   unfold stepC stepX
   rw[if_pos hs,valX_off (off_of hr),hw]
   exact congrArg some (putO_upd hd)
  ·cases h
 ·rename_i hs
  obtain⟨m,hm⟩:=stepO_eqv hc h hr hd
  refine⟨m,fun v => ?_⟩
  show stepC P call mu ops o (s.upd l v)=_
  unfold stepC
  rw[if_neg hs]
  exact hm v
theorem stepC_upq (hc:EqCall call) {ops:Array Oper} {o:Oper} {i:Nat} (h:stepC P call mu ops o s=some s'):Eqv (.up i) (fun v=>stepC P call mu ops o (s.upd (.up i) v)) s' :=
 stepC_eqv hc h (fun t _ e=>by cases e) trivial
theorem stepO_upq (hc:EqCall call) {soft:Bool} {ops:Array Oper} {o:Oper} {i:Nat} (h:stepO P call mu soft ops o s=some s'):Eqv (.up i) (fun v=>stepO P call mu soft ops o (s.upd (.up i) v)) s' :=
 stepO_eqv hc h (fun t _ e=>by cases e) (by cases o.dst<;>trivial)
theorem execOps_upq (hc:EqCall call) {soft:Bool} {ops:Array Oper} {i:Nat} : ∀ {os:List Oper} {s s':St},execOps P call mu soft ops os s=some s'->Eqv (.up i) (fun v=>execOps P call mu soft ops os (s.upd (.up i) v)) s'
 | [],s,s',h=>by unfold execOps at h;cases h;exact eqv_id fun v=>rfl
 |o::r,s,s',h=>by
  unfold execOps at h
  split at h
  ·rename_i s1 h1
   obtain⟨m,hm⟩:=stepO_upq (i:=i) hc h1
   obtain⟨m2,hm2⟩:=execOps_upq (i:=i) hc h
   refine⟨fun v=>m2 (m v),fun v => ?_⟩
   have e:=hm v
   dsimp only at e
   unfold execOps
   dsimp only
   rw[e]
   exact hm2 _
  ·cases h
theorem eq_none:EqCall (fun _ _=>none):=fun _ _ _ _ _ _ h=>by cases h
theorem one_upq {ops:Array Oper} {o:Oper} {i:Nat} {s1:St} {u v:TV}:ckOne P ops (s.upd (.up i) u) (s1.upd (.up i) v) o=ckOne P ops s s1 o:=by
 unfold ckOne
 cases o.dst with
 |none=>rfl
 |some t=>
  dsimp only
  have e : ∀s:St,∀v,(s.upd (.up i) v).tmp t=s.tmp t:=fun _ _=>rfl
  rw[e,e]
  congr 1
  cases h:stepC P (fun _ _=>none) (fun _=>false) ops o s1 with
  |some s' =>
   obtain⟨m,hm⟩:=stepC_upq (i:=i) eq_none h
   rw[show stepC P (fun _ _=>none) (fun _=>false) ops o (s1.upd (.up i) v)=some (s'.upd (.up i) (m v)) from hm v]
   rfl
  |none=>
   cases h2:stepC P (fun _ _=>none) (fun _=>false) ops o (s1.upd (.up i) v) with
   |none=>rfl
   |some s' =>
    exfalso
    obtain⟨m,hm⟩:=stepC_upq (i:=i) eq_none h2
    have hm:=hm (s1.up i)
    have back:(s1.upd (.up i) v).upd (.up i) (s1.up i)=s1:=by
     refine St.ext' (fun _=>rfl) (fun _ _=>rfl) (fun _=>rfl) rfl (funext fun x => ?_)
     show (if x=i then s1.up i else if x=i then v else s1.up x)=s1.up x
     by_cases h:x=i
     ·rw[if_pos h,h]
     ·rw[if_neg h,if_neg h]
    dsimp only at hm
    rw[back,h]at hm
    cases hm
theorem ck_upq {ops:Array Oper} {r L:List Nat} {i:Nat} {s1:St} {u v:TV}:ckAll P ops r (s.upd (.up i) u) (s1.upd (.up i) v) L=ckAll P ops r s s1 L:=by
 unfold ckAll
 simp only[one_upq]
theorem execC_upq (hc:EqCall call) {ops:Array Oper} {i:Nat} : ∀ {os:List Nat} {s s':St},execC P call mu ops os s=some s'->Eqv (.up i) (fun v=>execC P call mu ops os (s.upd (.up i) v)) s'
 | [],s,s',h=>by unfold execC at h;cases h;exact eqv_id fun v=>rfl
 |k::r,s,s',h=>by
  unfold execC at h
  split at h
  ·rename_i o ho
   split at h
   ·rename_i s1 h1
    split at h
    ·rename_i hk
     obtain⟨m,hm⟩:=stepC_upq (i:=i) hc h1
     obtain⟨m2,hm2⟩:=execC_upq (i:=i) hc h
     refine⟨fun v=>m2 (m v),fun v => ?_⟩
     have e:=hm v
     dsimp only at e
     unfold execC
     simp only[ho,e,ck_upq]
     rw[if_pos hk]
     exact hm2 _
    ·cases h
   ·cases h
  ·cases h
theorem preFrz_upq {draw:Bool} {ops:Array Oper} {i:Nat} (h:preFrz P draw ops s=some s'):Eqv (.up i) (fun v=>preFrz P draw ops (s.upd (.up i) v)) s':=by
 unfold preFrz at h
 split at h
 ·rename_i hd
  obtain⟨m,hm⟩:=frzAll_eqv (l := .up i) h
  exact⟨m,fun v=>(if_pos hd).trans (hm v)⟩
 ·rename_i hd
  cases h
  exact eqv_id fun v=>if_neg hd
def Upq (i:Nat) (f:TV->Option (Ex×St)) (e:Ex) (s':St):Prop := ∃m:TV->TV,∀v,f v=some (e,s'.upd (.up i) (m v))
theorem jumps_upq {run:Code->St->Option (Ex×St)} {i:Nat} (hrun : ∀k s e s',run k s=some (e,s')->Upq i (fun v=>run k (s.upd (.up i) v)) e s') {c:Code} : ∀ {n:Nat} {f:TV->Option (Ex×St)} {x:Ex×St} {e:Ex} {s':St},Upq i f x.1 x.2->jumps run c n (some x)=some (e,s')->Upq i (fun v=>jumps run c n (f v)) e s':=by
 intro n
 induction n with
 |zero=>intro f x e s' _ h;cases h
 |succ n ih=>
  intro f x e s' hf h
  obtain⟨x1,x2⟩:=x
  obtain⟨m,hm⟩:=hf
  dsimp only at hm
  cases x1 with
  |goto l=>
   unfold jumps at h
   dsimp only at h
   cases hl:findLabel c l with
   |none=>
    rw[hl]at h
    cases h
    exact⟨m,fun v=>by simp only[hm v,jumps,hl]⟩
   |some rest=>
    rw[hl]at h
    dsimp only at h
    cases hr:run rest x2 with
    |none=>rw[hr]at h;cases n<;>cases h
    |some y=>
     rw[hr]at h
     obtain⟨y1,y2⟩:=y
     obtain⟨m2,hm2⟩:=hrun _ _ _ _ hr
     obtain⟨m3,hm3⟩:=ih (f:=fun v=>run rest (x2.upd (.up i) v)) (x:=(y1,y2)) ⟨m2,hm2⟩ h
     exact⟨fun v=>m3 (m v),fun v=>by simp only[hm v,jumps,hl];exact hm3 (m v)⟩
  |_=>cases h;exact⟨m,fun v=>by simp only[hm v,jumps]⟩
theorem exec_upq (hc:EqCall call) {i:Nat} : ∀ (n:Nat) {c:Code} {s s':St} {e:Ex},exec P call mu n c s=some (e,s')->Upq i (fun v=>exec P call mu n c (s.upd (.up i) v)) e s':=by
 intro n
 induction n with
 |zero=>intro c s s' e h;cases h
 |succ n ih=>
  intro c s s' e h
  cases c with
  |skip=>cases h;exact⟨id,fun v=>rfl⟩
  |region id ops draw=>
   unfold exec at h
   dsimp only at h
   split at h
   ·rename_i s0 h0
    obtain⟨m,hm⟩:=preFrz_upq (i:=i) h0
    split at h
    ·rename_i s1 h1
     cases h
     have:Eqv (.up i) (fun v=>if (draw&&looseR mu ops)=true then execC P call mu ops (ordI ops) (s0.upd (.up i) v) else execOps P call mu draw ops ops.toList (s0.upd (.up i) v)) s':=by
      split at h1
      ·rename_i hl
       obtain⟨m2,hm2⟩:=execC_upq (i:=i) hc h1
       exact⟨m2,fun v=>(if_pos hl).trans (hm2 v)⟩
      ·rename_i hl
       obtain⟨m2,hm2⟩:=execOps_upq (i:=i) hc h1
       exact⟨m2,fun v=>(if_neg hl).trans (hm2 v)⟩
     obtain⟨m2,hm2⟩:=this
     refine⟨fun v=>m2 (m v),fun v => ?_⟩
     have e1:=hm v
     have e2:=hm2 (m v)
     dsimp only at e1 e2
     unfold exec
     simp only[e1,e2]
    ·cases h
   ·cases h
  |seq a b=>
   unfold exec at h
   dsimp only at h
   cases h1:exec P call mu n a s with
   |none=>rw[h1]at h;cases h
   |some x=>
    obtain⟨x1,x2⟩:=x
    rw[h1]at h
    obtain⟨m,hm⟩:=ih h1
    cases x1 with
    |normal=>
     obtain⟨m2,hm2⟩:=ih (s:=x2) h
     refine⟨fun v=>m2 (m v),fun v => ?_⟩
     have e1:=hm v
     dsimp only at e1
     unfold exec
     simp only[e1]
     exact hm2 _
    |_=>
     cases h
     refine⟨m,fun v => ?_⟩
     have e1:=hm v
     dsimp only at e1
     unfold exec
     simp only[e1]
  |cond x t f=>
   unfold exec at h
   dsimp only at h
   have hx : ∀v,(s.upd (.up i) v).eval x=s.eval x:=fun v=>by cases x<;>rfl
   split at h
   ·rename_i b hb
    obtain⟨m,hm⟩:=ih h
    refine⟨m,fun v => ?_⟩
    have e1:=hm v
    dsimp only at e1
    unfold exec
    simp only[hx,hb]
    exact e1
   ·cases h
  |block id c=>
   unfold exec at h
   dsimp only at h
   cases h1:exec P call mu n c s with
   |none=>rw[h1]at h;cases h
   |some x=>
    obtain⟨x1,x2⟩:=x
    rw[h1]at h
    obtain⟨m,hm⟩:=ih h1
    cases x1 with
    |exit j=>
     dsimp only at h
     split at h
     ·rename_i hj
      cases h
      refine⟨m,fun v => ?_⟩
      have e1:=hm v
      dsimp only at e1
      unfold exec
      simp only[e1]
      rw[if_pos hj]
     ·rename_i hj
      cases h
      refine⟨m,fun v => ?_⟩
      have e1:=hm v
      dsimp only at e1
      unfold exec
      simp only[e1]
      rw[if_neg hj]
    |_=>
     cases h
     refine⟨m,fun v => ?_⟩
     have e1:=hm v
     dsimp only at e1
     unfold exec
     simp only[e1]
  |loop c=>
   unfold exec at h
   dsimp only at h
   cases h1:exec P call mu n c s with
   |none=>rw[h1]at h;cases h
   |some x=>
    obtain⟨x1,x2⟩:=x
    rw[h1]at h
    obtain⟨m,hm⟩:=ih h1
    cases x1 with
    |normal=>
     obtain⟨m2,hm2⟩:=ih (s:=x2) h
     refine⟨fun v=>m2 (m v),fun v => ?_⟩
     have e1:=hm v
     dsimp only at e1
     unfold exec
     simp only[e1]
     exact hm2 _
    |_=>
     cases h
     refine⟨m,fun v => ?_⟩
     have e1:=hm v
     dsimp only at e1
     unfold exec
     simp only[e1]
  |exit id=>cases h;exact⟨_root_.id,fun v=>rfl⟩
  |scope c=>
   unfold exec at h
   dsimp only at h
   cases h1:exec P call mu n c s with
   |none=>rw[h1]at h;cases n<;>cases h
   |some x=>
    rw[h1]at h
    obtain⟨m,hm⟩:=jumps_upq (run:=exec P call mu n) (i:=i) (fun k s e s' hk=>ih hk) (f:=fun v=>exec P call mu n c (s.upd (.up i) v)) (x:=x) (ih h1) h
    exact⟨m,fun v=>by unfold exec;exact hm v⟩
  |label l=>cases h;exact⟨id,fun v=>rfl⟩
  |goto l=>cases h;exact⟨id,fun v=>rfl⟩
  |ret=>cases h;exact⟨id,fun v=>rfl⟩
  |_=>cases h
def Loc.in:Loc->Nat
 | .tmp t=>2*t
 | .up i=>2*i+1
theorem enter_upd {v:TV} {vs:List TV}:(s.upd l v).enter vs=(s.enter vs).upd (.up l.in) v:=by
 cases l with
 |tmp t=>
  refine St.ext' (fun _=>rfl) (fun _ _=>rfl) (fun _=>rfl) rfl (funext fun x => ?_)
  show (if x%2=0 then (if x/2=t then v else s.tmp (x/2)) else s.up (x/2))=if x=2*t then v else if x%2=0 then s.tmp (x/2) else s.up (x/2)
  by_cases h:x=2*t
  ·rw[if_pos h,if_pos (by omega),if_pos (by omega)]
  ·rw[if_neg h]
   by_cases h2:x%2=0
   ·rw[if_pos h2,if_pos h2,if_neg (by omega)]
   ·rw[if_neg h2,if_neg h2]
 |up i=>
  refine St.ext' (fun _=>rfl) (fun _ _=>rfl) (fun _=>rfl) rfl (funext fun x => ?_)
  show (if x%2=0 then s.tmp (x/2) else (if x/2=i then v else s.up (x/2)))=if x=2*i+1 then v else if x%2=0 then s.tmp (x/2) else s.up (x/2)
  by_cases h:x=2*i+1
  ·rw[if_pos h,if_neg (by omega),if_pos (by omega)]
  ·rw[if_neg h]
   by_cases h2:x%2=0
   ·rw[if_pos h2,if_pos h2]
   ·rw[if_neg h2,if_neg h2,if_neg (by omega)]
theorem leave_upd {v:TV}:(s.upd (.up l.in) v).leave=s.leave.upd l v:=by
 cases l with
 |tmp t=>
  refine St.ext' (fun x => ?_) (fun _ _=>rfl) (fun _=>rfl) rfl (funext fun x => ?_)
  ·show (if 2*x=2*t then v else s.up (2*x))=if x=t then v else s.up (2*x)
   by_cases h:x=t
   ·rw[if_pos h,if_pos (by omega)]
   ·rw[if_neg h,if_neg (by omega)]
  ·show (if 2*x+1=2*t then v else s.up (2*x+1))=s.up (2*x+1)
   rw[if_neg (by omega)]
 |up i=>
  refine St.ext' (fun x => ?_) (fun _ _=>rfl) (fun _=>rfl) rfl (funext fun x => ?_)
  ·show (if 2*x=2*i+1 then v else s.up (2*x))=s.up (2*x)
   rw[if_neg (by omega)]
  ·show (if 2*x+1=2*i+1 then v else s.up (2*x+1))=if x=i then v else s.up (2*x+1)
   by_cases h:x=i
   ·rw[if_pos h,if_pos (by omega)]
   ·rw[if_neg h,if_neg (by omega)]
theorem retI_upq {i:Nat} {v:TV} {rs:List ResultVar}:retI P (s.upd (.up i) v) rs=retI P s rs:=by
 have h1 : ∀r,resTV P (s.upd (.up i) v) r=resTV P s r:=fun r=>by cases r<;>rfl
 have h2 : ∀rs,resIs P (s.upd (.up i) v) rs=resIs P s rs:=by
  intro rs
  induction rs with
  |nil=>rfl
  |cons r rs ih=>unfold resIs;rw[h1,ih]
 unfold retI
 split
 ·rw[h1]
 ·rw[h1,h2,h2]
  rfl
 ·rw[h2]
theorem frzR_upq {i:Nat} {rs:List ResultVar} (h:frzR P s rs=some s'):Eqv (.up i) (fun v=>frzR P (s.upd (.up i) v) rs) s':=by
 have h1 : ∀v r,resTV P (s.upd (.up i) v) r=resTV P s r:=fun v r=>by cases r<;>rfl
 have h2 : ∀v rs,resTs P (s.upd (.up i) v) rs=resTs P s rs:=by
  intro v rs
  induction rs with
  |nil=>rfl
  |cons r rs ih=>unfold resTs;rw[h1,ih]
 unfold frzR at h ⊢
 split at h
 ·cases h
  exact eqv_id fun v=>rfl
 ·rename_i a b
  unfold frz2 at h ⊢
  split at h
  ·rename_i e2
   split at h
   ·rename_i e1
    cases h
    refine eqv_id fun v => ?_
    try dsimp only
    rw[h1,e2]
    exact if_pos e1
   ·rename_i e1
    obtain⟨m,hm⟩:=frzAll_eqv (l := .up i) h
    refine⟨m,fun v => ?_⟩
    try dsimp only
    rw[h1,h2,e2]
    exact(if_neg e1).trans (hm v)
  ·rename_i hne
   obtain⟨m,hm⟩:=frzAll_eqv (l := .up i) h
   refine⟨m,fun v => ?_⟩
   try dsimp only
   rw[h1,h2]
   split
   ·rename_i d g size off n e2
    exact(hne d g size off n e2).elim
   ·exact hm v
 ·rename_i rs' hne hne2
  obtain⟨m,hm⟩:=frzAll_eqv (l := .up i) h
  exact⟨m,fun v=>by
   try dsimp only
   rw[h2]
   exact hm v⟩
theorem callN_eq {X:Callf} (hX:EqCall X) {good:FuncId->Bool} : ∀n,EqCall (callN P X mu good n):=by
 intro n
 induction n with
 |zero=>intro g b s vs r e h;cases h
 |succ n ih=>
  intro g b s vs r e h l
  have key : ∀s1:St,callN P X mu good (n+1) g [.st b s1 vs]=match X g [.st b s1 vs]with
   |some r=>some r
   |none=>match P.funcs[g]? with
    |some fn=>if good g then match fn.body with
      |some c=>if vs.length<=fn.ntmps/\(b=true->lookCode c=true) then inlOf P fn.results.toList b (exec P (callN P X mu good n) mu n c (s1.enter vs)) else none
      |none=>none
     else none
    |none=>none:=fun s1=>rfl
  have hn:X g [.st b s vs]=none -> ∀v,X g [.st b (s.upd l v) vs]=none:=by
   intro h0 v
   cases e1:X g [.st b (s.upd l v) vs]with
   |none=>rfl
   |some x=>
    exfalso
    obtain⟨m,hm⟩:=hX _ _ _ _ _ _ e1 l
    have back : ∃u,(s.upd l v).upd l u=s:=by
     cases l with
     |tmp t=>
      refine⟨s.tmp t,St.ext' (fun x => ?_) (fun _ _=>rfl) (fun _=>rfl) rfl rfl⟩
      show (if x=t then s.tmp t else if x=t then v else s.tmp x)=s.tmp x
      by_cases h:x=t
      ·rw[if_pos h,h]
      ·rw[if_neg h,if_neg h]
     |up t=>
      refine⟨s.up t,St.ext' (fun _=>rfl) (fun _ _=>rfl) (fun _=>rfl) rfl (funext fun x => ?_)⟩
      show (if x=t then s.up t else if x=t then v else s.up x)=s.up x
      by_cases h:x=t
      ·rw[if_pos h,h]
      ·rw[if_neg h,if_neg h]
    obtain⟨u,hu⟩:=back
    have:=hm u
    rw[hu,h0]at this
    cases this
  rw[key]at h
  cases h0:X g [.st b s vs]with
  |some x=>
   rw[h0]at h
   cases h
   obtain⟨m,hm⟩:=hX _ _ _ _ _ _ h0 l
   exact⟨m,fun v=>by rw[key,hm v]⟩
  |none=>
   rw[h0]at h
   dsimp only at h
   have hn:=hn h0
   split at h
   ·rename_i fn hf
    split at h
    ·rename_i hg
     split at h
     ·rename_i c hb
      split at h
      ·rename_i hc
       cases hx:exec P (callN P X mu good n) mu n c (s.enter vs) with
       |none=>rw[hx]at h;cases h
       |some x=>
        obtain⟨x1,x2⟩:=x
        rw[hx]at h
        obtain⟨m,hm⟩:=exec_upq ih (i:=l.in) n hx
        cases x1 with
        |ret=>
         unfold inlOf at h
         dsimp only at h
         split at h
         ·rename_i hk
          refine⟨m,fun v => ?_⟩
          have e1:=hm v
          dsimp only at e1
          rw[key,hn v]
          simp only[hf]
          rw[if_pos hg,hb]
          dsimp only
          rw[if_pos hc,enter_upd,e1]
          unfold inlOf
          dsimp only
          rw[if_pos hk,retI_upq]
          split at h
          ·cases h;rfl
          ·cases h
         ·rename_i hk
          split at h
          ·rename_i s1 h1
           split at h
           ·rename_i t ht
            cases h
            obtain⟨m2,hm2⟩:=frzR_upq (i:=l.in) h1
            refine⟨fun v=>m2 (m v),fun v => ?_⟩
            have e1:=hm v
            dsimp only at e1
            rw[key,hn v]
            simp only[hf]
            rw[if_pos hg,hb]
            dsimp only
            rw[if_pos hc,enter_upd,e1]
            unfold inlOf
            dsimp only
            rw[if_neg hk,show frzR P (x2.upd (Loc.up l.in) (m v)) fn.results.toList=_ from hm2 (m v)]
            dsimp only
            rw[retI_upq,ht]
            dsimp only
            rw[leave_upd]
            rfl
           ·cases h
          ·cases h
        |_=>cases h
      ·cases h
     ·cases h
    ·cases h
   ·cases h
end Go.Ev
