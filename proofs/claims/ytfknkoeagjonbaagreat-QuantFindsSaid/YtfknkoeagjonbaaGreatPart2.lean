/- Part 2 of the proof: the evaluator, contracts of functions and their plain laws (joined by program). No condition. -/
import Derived.Test.YtfknkoeagjonbaaGreatPart1
import Derived.LoopN
import Derived.Scope
import Derived.DataReads
import Derived.Carry
import Derived.Below
import Derived.ChangeSame
import Derived.ProofKit
set_option linter.unusedVariables false
set_option linter.unusedSimpArgs false
set_option maxRecDepth 100000
namespace Go.Ev
open Go.RowKit
def isImp:Arg->Bool
 | .imp _=>true
 | .impref _ _ _ _=>true
 |_=>false
def ArgRep (w:World) (F:Nat->Prop) (v:Value) (b:Nat):Arg->Prop
 | .sv s=>Rep w F v s
 | .imp cs=>v = .pointer (some ⟨b,0,none⟩)/\F b/\Holds w F b cs
 | .impref cs size off n=>(∃cap us ty,v = .slice (some ⟨b,off,none⟩) n cap/\n<=cap/\w.heap[b]?=some (.cells us ty (0,0))/\off+cap*size<=us.size)/\F b/\Holds w F b cs
def RetRep (w w':World) (F:Nat->Prop) (v:Value):Ret->Prop
 | .sv s=>Rep w' F v s
 | .obj cs => ∃b,v = .pointer (some ⟨b,0,none⟩)/\w.heap.size<=b/\Holds w' (fun x=>F x\/x=b) b cs
 | .row cs size off n => ∃b cap us ty,v = .slice (some ⟨b,off,none⟩) n cap/\n<=cap/\w'.heap[b]?=some (.cells us ty (0,0))/\off+cap*size<=us.size/\w.heap.size<=b/\Holds w' (fun x=>F x\/x=b) b cs
def impB (args:List Arg) (B:Nat->Nat) (b:Nat):Prop := ∃i x,args[i]?=some x/\isImp x=true/\B i=b
def Enters (P:Program) (g:FuncId):Prop := ∀ (args:Array Value) (w:World),(callFunc g args).run P w = .ok (.enter g args) w
def Invk (P:Program) (g:FuncId) (vs:Array Value) (w:World) (K:Ending->World->Prop):Prop:=
 (Enters P g/\Calls P g vs w K) \/ ∃v,(callFunc g vs).run P w = .ok (.value v) w/\K (.returned v) w
theorem Invk.mono {P:Program} {g:FuncId} {vs:Array Value} {w:World} {K K':Ending->World->Prop} (h:Invk P g vs w K) (k : ∀e w',K e w'->K' e w'):Invk P g vs w K':=by
 rcases h with⟨h1,h2⟩|⟨v,h1,h2⟩
 ·exact .inl ⟨h1,h2.mono k⟩
 ·exact .inr ⟨v,h1,k _ _ h2⟩
def CallOk (P:Program) (call:Callf):Prop := ∀g args r exps,call g args=some (r,exps) ->
 ∀ (w:World) (F:Nat->Prop) (B:Nat->Nat) (vals:Array Value),(∀b,F b->b<w.heap.size)->vals.size=args.length ->
  (∀ (i:Nat) (x:Arg),args[i]?=some x->ArgRep w F (vals.getD i undef) (B i) x) ->
  (∀ (i j:Nat) (x y:Arg),args[i]?=some x->args[j]?=some y->isImp x=true->isImp y=true->B i=B j->i=j) ->
  Invk P g vals w fun e w' => ∃v,e = .returned v/\RetRep w w' F v r/\Ext (impB args B) w w' /\ ∀ (i:Nat) (cs:List SV),exps[i]?=some (some cs)->Holds w' F (B i) cs
section
variable {P:Program} {w0 w:World} {F I:Nat->Prop} {Z:Nat->Nat} {N:Nat} {β:Nat->Nat->Nat} {st:St} {a:Act}
def Goes (P:Program) (a:Act) (o:Oper) (w:World) (K:Act->World->Prop):Prop := ∀Q:Exit->Act->World->Prop,o.wp P a w K Q
theorem Runs.goes {o:Oper} {K:Act->World->Prop} (h:Runs P a o w K):Goes P a o w K:=fun _=>h.wp
theorem Ext.mono {I J:Nat->Prop} {w w':World} (h:Ext I w w') (hIJ : ∀b,I b->J b) (hJ : ∀b,J b->I b \/ ∀cs ty,w.heap[b]?=some (.cells cs ty (0,0))->w'.heap[b]?=w.heap[b]?):Ext J w w' :=
 ⟨h.os,h.tape,h.output,h.size,fun b hb hn=>h.block b hb (fun hi=>hn (hIJ b hi)),fun b cs ty hb hj hc=>by
  rcases hJ b hj with hi|hi
  ·exact h.imp b cs ty hb hi hc
  ·exact⟨cs,(hi cs ty hc).trans hc,rfl⟩⟩
theorem Rel.after (h:Rel w0 F I Z N β st a w) {J:Nat->Prop} {w':World} {st':St} (he:Ext J w w') (hJ : ∀b,J b -> ∃d g,(st.obj d g).isSome=true/\β d g=b) (ht:st'.tmp=st.tmp) (hg:st'.gen=st.gen)
  (hs : ∀d g,(st'.obj d g).isSome=(st.obj d g).isSome) (ho : ∀d g cs,st'.obj d g=some cs->(J (β d g)/\Holds w' (Mut F β st) (β d g) cs)\/(¬J (β d g)/\st.obj d g=some cs)):Rel w0 F I Z N β st' a w':=by
 have hmut : ∀b,Mut F β st' b↔Mut F β st b:=by
  intro b;constructor
  ·rintro(hf|⟨d,g,h1,h2⟩)
   ·exact .inl hf
   ·exact .inr ⟨d,g,by rw[hs]at h1;exact h1,h2⟩
  ·rintro(hf|⟨d,g,h1,h2⟩)
   ·exact .inl hf
   ·exact .inr ⟨d,g,by rw[hs];exact h1,h2⟩
 have hJm : ∀b,J b->Mut F β st b:=fun b hb=>by obtain⟨d,g,h1,h2⟩:=hJ b hb;exact .inr ⟨d,g,h1,h2⟩
 have hcell : ∀p:Addr,p.block<w.heap.size -> ¬Mut F β st p.block->w'.cell? p=w.cell? p:=fun p hp hm=>World.cell?_of_block (w:=w) (w':=w') (he.block p.block hp (fun hj=>hm (hJm _ hj)))
 have hMM : ∀b,b<w.heap.size->Mut F β st' b->Mut F β st b:=fun b _ hm=>(hmut b).1 hm
 have hrep : ∀ {v:Value} {s:SV},Rep w (Mut F β st) v s->Rep w' (Mut F β st') v s:=fun hr=>Rep.mono hcell hMM hr
 exact {
  defers:=h.defers
  size:=h.size
  tmps:=fun u=>by
   rw[ht];refine RepT.mono (w:=w) hcell hMM (fun b cs ty hm hc => ?_) (fun b hm hb=>he.block b hb (fun hj=>hm (hJm _ hj))) (h.tmps u);by_cases hj:J b
   ·exact he.imp b cs ty (lt_of_heap hc) hj hc
   ·exact⟨cs,(he.block b (lt_of_heap hc) hj).trans hc,rfl⟩
  ids:=fun t d g hx=>by rw[hg];rw[ht]at hx;exact h.ids t d g hx
  objs:=fun d g cells hc=>by
   rcases ho d g cells hc with⟨_,us,ty,hb,hall⟩|⟨hnj,hold⟩
   ·refine⟨us,ty,hb,fun i s hi => ?_⟩;obtain⟨h1,v,hv,hr⟩:=hall i s hi;exact⟨h1,v,hv,Rep.mono (w:=w') (fun _ _ _=>rfl) (fun b _ hm=>(hmut b).1 hm) hr⟩
   ·obtain⟨us,ty,hb,hall⟩:=h.objs d g cells hold;refine⟨us,ty,(he.block _ (lt_of_heap hb) hnj).trans hb,fun i s hi => ?_⟩;obtain⟨h1,v,hv,hr⟩:=hall i s hi;exact⟨h1,v,hv,hrep hr⟩
  own:=fun d g h1=>h.own d g (by rw[hs]at h1;exact h1)
  room:=h.room
  inj:=fun d1 g1 d2 g2 h1 h2 e=>h.inj d1 g1 d2 g2 (by rw[hs]at h1;exact h1) (by rw[hs]at h2;exact h2) e
  gens:=fun d g h1=>by rw[hg];exact h.gens d g (by rw[hs]at h1;exact h1)
  ext:=by
   refine⟨he.os.trans h.ext.os,he.tape.trans h.ext.tape,he.output.trans h.ext.output,xH h.ext.size he.size,fun b hb hI => ?_,fun b cs ty hb hI hc => ?_⟩
   ·refine(he.block b (xz hb h.ext.size) (fun hj => ?_)).trans (h.ext.block b hb hI);obtain⟨d,g,h1,rfl⟩:=hJ b hj;obtain⟨h2,h3⟩:=h.own d g h1;rcases xi d N0 with hd|hd
    ·have:=h2 hd;omega
    ·exact hI (h3 hd)
   ·obtain⟨cs1,hc1,e1⟩:=h.ext.imp b cs ty hb hI hc;by_cases hj:J b
    ·obtain⟨cs2,hc2,e2⟩:=he.imp b cs1 ty (xz hb h.ext.size) hj hc1;exact⟨cs2,hc2,e2.trans e1⟩
    ·exact⟨cs1,(he.block b (xz hb h.ext.size) hj).trans hc1,e1⟩
  old:=h.old
  imps:=h.imps
  pin:=h.pin }
theorem Rel.ext0 (h:Rel w0 F I Z N β st a w) {w':World} (he:Ext (fun _=>False) w w'):Rel w0 F I Z N β st a w' :=
 h.after he (fun _ hb=>hb.elim) rfl rfl (fun _ _=>rfl) (fun _ _ _ hc => .inr ⟨fun x=>x,hc⟩)
theorem Rel.adopt (h:Rel w0 F I Z N β st a w) {w':World} (he:Ext (fun _=>False) w w') {d b:Nat} (hd:d<N) {cs:List SV} (hb:w.heap.size<=b) (hc:Holds w' (fun x=>Mut F β st x\/x=b) b cs)
  {tv:TV} {v:Value} (hid:tv.id=some (d,st.gen d)) (htv : ∀M,RepT (upd β d (st.gen d) b) w' M v tv) :
  Rel w0 F I Z N (upd β d (st.gen d) b) (st.new d cs tv) (a.put (some d) v) w':=by
 have hobj : ∀d' g',((st.new d cs tv).obj d' g').isSome=true->(d'=d/\g'=st.gen d)\/((st.obj d' g').isSome=true /\ ¬(d'=d/\g'=st.gen d)):=by
  intro d' g' ho;by_cases hx:d'=d/\g'=st.gen d
  ·exact .inl hx
  ·simp only[St.new,if_neg hx]at ho;exact .inr ⟨ho,hx⟩
 have hupd : ∀d' g',¬(d'=d/\g'=st.gen d)->upd β d (st.gen d) b d' g'=β d' g':=fun d' g' hx=>if_neg hx
 have hM : ∀x,Mut F (upd β d (st.gen d) b) (st.new d cs tv) x->Mut F β st x\/x=b:=by
  rintro x (hf|⟨d',g',ho,e⟩)
  ·exact .inl (.inl hf)
  ·rcases hobj d' g' ho with⟨rfl,rfl⟩|⟨ho',hx⟩
   ·rw[upd_self]at e;exact .inr e.symm
   ·rw[hupd _ _ hx]at e;exact .inl (.inr ⟨d',g',ho',e⟩)
 have hM' : ∀x,x<w.heap.size->Mut F (upd β d (st.gen d) b) (st.new d cs tv) x->Mut F β st x:=fun x hx hm=>(hM x hm).resolve_right (by omega)
 have hcell : ∀p:Addr,p.block<w.heap.size -> ¬Mut F β st p.block->w'.cell? p=w.cell? p:=fun p hp _=>World.cell?_of_block (w:=w) (w':=w') (he.block p.block hp (fun x=>x))
 have hrep : ∀ {v:Value} {s:SV},Rep w (Mut F β st) v s->Rep w' (Mut F (upd β d (st.gen d) b) (st.new d cs tv)) v s:=fun hr=>Rep.mono hcell hM' hr
 exact {
  defers:=h.defers
  size:=by simp[Act.put,h.size]
  tmps:=fun u=>by
   by_cases hu:u=d
   ·subst hu;simp only[Act.put,xR];rw[zN (by rw[h.size];exact hd)];have:(st.new u cs tv).tmp u=tv:=if_pos rfl;rw[this];exact htv _
   ·have h1:(st.new d cs tv).tmp u=st.tmp u:=if_neg hu;rw[h1];simp only[Act.put,xR];rw[zV (fun e=>hu e.symm)];have hold:=h.tmps u;rw[xR]at hold;have hids:=h.ids u
    revert hold hids
    cases st.tmp u with
    |sv s=>intro hold _;exact hrep hold
    |nil=>intro hold _;exact hold
    |undef=>intro _ _;trivial
    |skip=>intro hold _;exact hold
    |ptr d' g' off=>
     intro hold hids;have hl:=hids d' g' rfl;show _=_;rw[hupd d' g' (fun e=>by obtain⟨rfl,rfl⟩:=e;omega)];exact hold
    |ref d' g' size off n=>
     intro hold hids;have hl:=hids d' g' rfl;obtain⟨cap,cs',ty',h1,h2,h3,h4⟩:=hold;refine⟨cap,cs',ty',?_,h2,?_,h4⟩
     ·rw[hupd d' g' (fun e=>by obtain⟨rfl,rfl⟩:=e;omega)];exact h1
     ·rw[hupd d' g' (fun e=>by obtain⟨rfl,rfl⟩:=e;omega),he.block _ (lt_of_heap h3) (fun x=>x)];exact h3
  ids:=fun u d' g' hx=>by
   simp only[St.new]at hx ⊢;split at hx
   ·rw[hid]at hx;simp only[Option.some.injEq,Prod.mk.injEq]at hx;obtain⟨rfl,rfl⟩:=hx;rw[if_pos rfl];omega
   ·have:=h.ids u d' g' hx;split
    ·rename_i e;subst e;omega
    ·exact this
  objs:=fun d' g' cells ho=>by
   by_cases hx:d'=d/\g'=st.gen d
   ·obtain⟨rfl,rfl⟩:=hx;simp only[St.new,and_self,if_true,Option.some.injEq]at ho;subst ho;obtain⟨us,ty,hb1,hall⟩:=hc;refine⟨us,ty,by rw[upd_self];exact hb1,fun i s hs => ?_⟩;obtain⟨h1,u,hu,hr⟩:=hall i s hs;exact⟨h1,u,hu,Rep.mono (w:=w') (fun _ _ _=>rfl) (fun x _ hm=>hM x hm) hr⟩
   ·simp only[St.new,if_neg hx]at ho;obtain⟨us',ty',hb1,hall⟩:=h.objs d' g' cells ho;refine⟨us',ty',by rw[hupd _ _ hx,he.block _ (lt_of_heap hb1) (fun x=>x)];exact hb1,fun i s hs => ?_⟩;obtain⟨h1,u,hu,hr⟩:=hall i s hs;exact⟨h1,u,hu,hrep hr⟩
  own:=fun d' g' ho=>by
   rcases hobj d' g' ho with⟨rfl,rfl⟩|⟨ho',hx⟩
   ·rw[upd_self];exact⟨fun _=>xH h.ext.size hb,fun hn=>absurd (xz hd h.room) (by omega)⟩
   ·rw[hupd _ _ hx];exact h.own d' g' ho'
  room:=h.room
  inj:=fun d1 g1 d2 g2 h1 h2 e=>by
   rcases hobj d1 g1 h1 with⟨rfl,rfl⟩|⟨h1',he1⟩<;>rcases hobj d2 g2 h2 with⟨rfl,rfl⟩|⟨h2',he2⟩
   ·exact⟨rfl,rfl⟩
   ·rw[upd_self,hupd _ _ he2]at e;have:=h.lt h2';omega
   ·rw[upd_self,hupd _ _ he1]at e;have:=h.lt h1';omega
   ·rw[hupd _ _ he1,hupd _ _ he2]at e;exact h.inj d1 g1 d2 g2 h1' h2' e
  gens:=fun d' g' ho=>by
   simp only[St.new];rcases hobj d' g' ho with⟨rfl,rfl⟩|⟨ho',hx⟩
   ·rw[if_pos rfl];omega
   ·have:=h.gens d' g' ho';split
    ·rename_i e;subst e;omega
    ·exact this
  ext:=h.ext.trans (he.mono (fun _ hx=>hx.elim) (fun x _ => .inr fun cs ty hcx=>he.block x (lt_of_heap hcx) (fun y=>y)))
  old:=h.old
  imps:=h.imps
  pin:=fun d' g' hd'=>(hupd d' g' (fun e=>by have:=h.room;omega)).trans (h.pin d' g' hd') }
end
end Go.Ev
namespace Go.Ev
open Go.RowKit
section
variable {P:Program} {w0 w:World} {F I:Nat->Prop} {Z:Nat->Nat} {N:Nat} {β:Nat->Nat->Nat} {st:St} {a:Act}
theorem call_run {g:FuncId} {f:Operand} {args:Array Operand} {tys:Array TypeId} {vs:Array Value} (hf:a.eval f = .func (.func g) #[] vs) (hg:Enters P g) (dst:Option Nat) (ty:TypeId) (pos:String) (af:Array Edge) (gd:Option (Nat×Bool)) :
  (execOp a.eval ⟨dst,.call { callee := .value f,args:=args,argTypes:=tys },ty,pos,af,gd⟩).run P w = .ok (.enter g (args.map a.eval++vs)) w:=by
 simp only[execOp,resolve,hf,Deferred.ofValue,Sem.run_bind,Sem.run_pure,Result.andThen_ok,invoke];rw[hg];simp
theorem calls_goes {g:FuncId} {f:Operand} {args:Array Operand} {tys:Array TypeId} {vs:Array Value} (hf:a.eval f = .func (.func g) #[] vs) {K:Act->World->Prop} {dst:Option Nat} {ty:TypeId} {pos:String} {af:Array Edge} {gd:Option (Nat×Bool)}
  (h:Invk P g (args.map a.eval++vs) w fun e w' => ∃v,e = .returned v/\K (a.put dst v) w') :
  Goes P a ⟨dst,.call { callee := .value f,args:=args,argTypes:=tys },ty,pos,af,gd⟩ w K:=by
 intro Q;rcases h with⟨hg,h⟩|⟨v,h,v',hv,hk⟩
 ·unfold Oper.wp;rw[call_run hf hg,Oper.upon_enter];refine h.mono ?_;rintro e w' ⟨v,rfl,hk⟩
  exact hk
 ·cases hv;unfold Oper.wp;have:(execOp a.eval ⟨dst,.call { callee := .value f,args:=args,argTypes:=tys },ty,pos,af,gd⟩).run P w = .ok (.value v) w:=by
   simp only[execOp,resolve,hf,Deferred.ofValue,Sem.run_bind,Sem.run_pure,Result.andThen_ok,invoke];simpa using h
  rw[this,Oper.upon_value];exact hk
theorem impB_sv (ss:List SV) (B:Nat->Nat) (b:Nat) : ¬impB (ss.map Arg.sv) B b:=by
 rintro⟨i,x,hx,hi,_⟩
 rw[zD]at hx;cases hs:ss[i]? with
 |none=>rw[hs]at hx;cases hx
 |some s=>rw[hs]at hx;cases hx;cases hi
theorem afterCall_goes (h:Rel w0 F I Z N β st a w) {dst:Option Nat} {soft:Bool} {st':St} {r:Ret} {exps:List (Option (List SV))} (hd : ∀d,dst=some d->d<N) (hs:afterCall soft dst st (some (r,exps))=some st')
  {w':World} {v:Value} (hr:RetRep w w' (Mut F β st) v r) (he:Ext (fun _=>False) w w'):To w0 F I Z N st' (a.put dst v) w':=by
 cases r with
 |sv s=>
  cases hs;have h':=h.ext0 he;exact⟨β,h'.putO (t := .sv s) hd hr (fun d g e=>by simp[TV.id]at e)⟩
 |obj cs=>
  unfold afterCall at hs;simp only at hs;split at hs
  ·cases hs
  ·split at hs
   ·rename_i d;cases hs;obtain⟨b,rfl,hb,hc⟩:=hr;exact⟨_,h.adopt he (hd d rfl) hb hc rfl (fun _=>by show _=_;rw[upd_self])⟩
   ·cases hs
 |row cs size off n=>
  unfold afterCall at hs;simp only at hs;split at hs
  ·cases hs;have h':=h.ext0 he;obtain⟨b,cap,us,ty,rfl,h1,h2,h3,hb,us',ty',h2',hall⟩:=hr;refine⟨β,h'.putO (t := .sv (.sl n ((cs.drop off).take (n*size)))) hd ?_ (fun d g e=>by simp[TV.id]at e)⟩;have hnb : ¬Mut F β st b:=fun hm=>absurd (h.mut_lt hm) (by omega)
   have key : ∀ (i:Nat) (s:SV),((cs.drop off).take (n*size))[i]?=some s -> ∃v:Value,us'[off+i]?=some v/\Rep w' (Mut F β st) v s:=by
    intro i s hi;rw[List.getElem?_take]at hi;split at hi
    ·rw[ye]at hi;obtain⟨_,v,hv,hrv⟩:=hall _ s hi;exact⟨v,hv,Rep.mono (w:=w') (fun _ _ _=>rfl) (fun x _ hm => .inl hm) hrv⟩
    ·cases hi
   refine .sl _ _ _ h1 _ (fun i=>us'.getD (off+i) undef) hnb (fun i s hi => ?_) (fun i s hi => ?_)
   ·obtain⟨v,hv,_⟩:=key i s hi;rw[add_mk];simp[World.cell?,h2',hv,xR]
   ·obtain⟨v,hv,hrv⟩:=key i s hi;rw[show us'.getD (off+i) undef=v by rw[xR,hv];rfl];exact hrv
  ·split at hs
   ·rename_i d;cases hs;obtain⟨b,cap,us,ty,rfl,h1,h2,h3,hb,hc⟩:=hr;exact⟨_,h.adopt he (hd d rfl) hb hc rfl (fun _=>⟨cap,us,ty,by rw[upd_self],h1,by rw[upd_self];exact h2,h3⟩)⟩
   ·cases hs
theorem pure_goes (h:Rel w0 F I Z N β st a w) {call:Callf} (hcall:CallOk P call) {g:FuncId} {caps ss:List SV} {f:Operand} {args:Array Operand} {tys:Array TypeId} {dst:Option Nat} {soft:Bool} {st':St} (hd : ∀d,dst=some d->d<N)
  (hf:st.eval f = .sv (.fn g caps)) (hss:allSV (args.toList.map st.eval)=some ss) (hs:afterCall soft dst st (call g ((ss++caps).map Arg.sv))=some st') (ty:TypeId) (pos:String) (af:Array Edge) (gd:Option (Nat×Bool)) :
  Goes P a ⟨dst,.call { callee := .value f,args:=args,argTypes:=tys },ty,pos,af,gd⟩ w (To w0 F I Z N st'):=by
 cases hc:call g ((ss++caps).map Arg.sv) with
 |none=>rw[hc]at hs;cases hs
 |some re=>
  obtain⟨r,exps⟩:=re;rw[hc]at hs;have hC:=hcall _ _ _ _ hc;obtain⟨hl,hrep⟩:=allSV_rep h hss;have hfv:=h.eval f;rw[hf]at hfv;generalize hfe:a.eval f=fv at hfv;cases hfv with
  |fn _ vs _ hvl hvr=>
   refine calls_goes hfe ?_;have hsz:args.size=ss.length:=by rw[<- hl];simp
   refine(hC w (Mut F β st) (fun _=>0) _ (fun b hb=>h.mut_lt hb) ?_ (fun i x hx => ?_) (fun i j x y hx _ hi _ _ => ?_)).mono ?_
   ·simp[hvl,hsz]
   ·rw[zD]at hx;cases hsx:(ss++caps)[i]? with
    |none=>rw[hsx]at hx;cases hx
    |some s=>
     rw[hsx]at hx;cases hx;show Rep w _ _ s;rw[xR];rcases xi i ss.length with hi|hi
     ·rw[yf hi]at hsx;obtain⟨v,hv,hr⟩:=hrep i s hsx;rw[zW (by simpa[<- hl]using hi),<- Array.getElem?_toList,Array.toList_map,hv];exact hr
     ·rw[yj hi]at hsx;have:=hvr _ s hsx;rw[xR]at this;rw[Array.getElem?_append_right (by simp;omega)];simp only[Array.size_map];rw[show args.size=ss.length from by rw[<- hl];simp];exact this
   ·rw[zD]at hx;cases hsx:(ss++caps)[i]? with
    |none=>rw[hsx]at hx;cases hx
    |some s=>rw[hsx]at hx;cases hx;cases hi
   ·rintro e w' ⟨v,rfl,hr,he,_⟩
    exact⟨v,rfl,afterCall_goes h hd hs hr (he.mono (fun b hb=>impB_sv _ _ b hb) (fun b hb=>hb.elim))⟩
theorem impArgs_get : ∀ {vs:List TV} {ars:List Arg},impArgs st vs=some ars->ars.length=vs.length /\ ∀ (i:Nat) (x:Arg),ars[i]?=some x ->
  ∃v,vs[i]?=some v/\((∃s,x = .sv s/\v.toSV=some s)\/(∃d g cs,v = .ptr d g 0/\x = .imp cs/\st.obj d g=some cs) \/ ∃d g cs size off n,v = .ref d g size off n/\x = .impref cs size off n/\st.obj d g=some cs)
 | [],ars,h=>by cases h;exact⟨rfl,fun i x hx=>by simp at hx⟩
 |v::r,ars,h=>by
  unfold impArgs at h;split at h
  ·cases h
  ·rename_i l hl;obtain⟨h1,h2⟩:=impArgs_get hl;have fin : ∀ {x:Arg},ars=x::l->((∃s,x = .sv s/\v.toSV=some s)\/(∃d g cs,v = .ptr d g 0/\x = .imp cs/\st.obj d g=some cs) \/ ∃d g cs size off n,v = .ref d g size off n/\x = .impref cs size off n/\st.obj d g=some cs) ->
     ars.length=(v::r).length /\ ∀ (i:Nat) (x:Arg),ars[i]?=some x ->
     ∃u,(v::r)[i]?=some u/\((∃s,x = .sv s/\u.toSV=some s)\/(∃d g cs,u = .ptr d g 0/\x = .imp cs/\st.obj d g=some cs) \/ ∃d g cs size off n,u = .ref d g size off n/\x = .impref cs size off n/\st.obj d g=some cs):=by
    intro x e hx;subst e;refine⟨by simp[h1],fun i y hy => ?_⟩;cases i with
    |zero=>simp only[yK,Option.some.injEq]at hy;subst hy;exact⟨v,rfl,hx⟩
    |succ i=>simp only[yQ]at hy ⊢;exact h2 i y hy
   split at h
   ·rename_i d g;split at h
    ·rename_i cs hc;cases h;exact fin rfl (.inr (.inl ⟨d,g,cs,rfl,rfl,hc⟩))
    ·cases h
   ·rename_i d g size off n;split at h
    ·rename_i cs hc;cases h;exact fin rfl (.inr (.inr ⟨d,g,cs,size,off,n,rfl,rfl,hc⟩))
    ·cases h
   ·split at h
    ·rename_i s hs;cases h;exact fin rfl (.inl ⟨s,rfl,hs⟩)
    ·cases h
theorem impIds_get : ∀ {vs:List TV} {i:Nat} {v:TV} {d g:Nat},vs[i]?=some v->v.id=some (d,g)->(d,g)∈impIds vs
 |v::r,0,u,d,g,h,hi=>by
  simp only[yK,Option.some.injEq]at h;subst h;cases v with
  |ptr d' g' off=>simp only[TV.id,Option.some.injEq,Prod.mk.injEq]at hi;obtain⟨rfl,rfl⟩:=hi;exact yW
  |ref d' g' size off n=>simp only[TV.id,Option.some.injEq,Prod.mk.injEq]at hi;obtain⟨rfl,rfl⟩:=hi;exact yW
  |_=>simp[TV.id]at hi
 |v::r,i+1,u,d,g,h,hi=>by
  simp only[yQ]at h;have:=impIds_get h hi;cases v<;>first|exact yb _ this|exact this
theorem impIds_distinct : ∀ {vs:List TV},distinct (impIds vs)=true -> ∀ {i j:Nat} {u v:TV} {d g:Nat},vs[i]?=some u->vs[j]?=some v->u.id=some (d,g)->v.id=some (d,g)->i=j
 | [],_,i,j,u,v,d,g,h,_,_,_=>by simp at h
 |x::r,hd,i,j,u,v,d,g,hu,hv,hiu,hiv=>by
  have hr:distinct (impIds r)=true:=by
   cases x<;>simp only[impIds,distinct,xh]at hd<;>first|exact hd.2|exact hd
  have hx : ∀ {k:Nat} {y:TV},r[k]?=some y->y.id=some (d,g)->x.id=some (d,g)->False:=by
   intro k y hy hiy hix;have hm:=impIds_get hy hiy;cases x with
   |ptr d' g' off=>
    simp only[TV.id,Option.some.injEq,Prod.mk.injEq]at hix;obtain⟨rfl,rfl⟩:=hix;simp only[impIds,distinct,xh,Bool.not_eq_true',List.contains_eq_mem,decide_eq_false_iff_not]at hd;exact hd.1 hm
   |ref d' g' size off n=>
    simp only[TV.id,Option.some.injEq,Prod.mk.injEq]at hix;obtain⟨rfl,rfl⟩:=hix;simp only[impIds,distinct,xh,Bool.not_eq_true',List.contains_eq_mem,decide_eq_false_iff_not]at hd;exact hd.1 hm
   |_=>simp[TV.id]at hix
  cases i with
  |zero=>
   simp only[yK,Option.some.injEq]at hu;subst hu;cases j with
   |zero=>rfl
   |succ j=>simp only[yQ]at hv;exact(hx hv hiv hiu).elim
  |succ i=>
   simp only[yQ]at hu;cases j with
   |zero=>
    simp only[yK,Option.some.injEq]at hv;subst hv;exact(hx hu hiu hiv).elim
   |succ j=>
    simp only[yQ]at hv;rw[impIds_distinct hr hu hv hiu hiv]
theorem expAll_spec : ∀ {vs:List TV} {exps:List (Option (List SV))} {st st':St},expAll st vs exps=some st' ->
  st'.tmp=st.tmp/\st'.gen=st.gen/\(∀d g,(∀ (i:Nat) (v:TV),vs[i]?=some v->v.id≠some (d,g))->st'.obj d g=st.obj d g) /\
  (distinct (impIds vs)=true -> ∀ (i:Nat) (v:TV) (d g:Nat),vs[i]?=some v->v.id=some (d,g) -> ∃cs,exps[i]?=some (some cs)/\st'.obj d g=some cs)
 | [],exps,st,st',h=>by
  cases exps with
  |nil=>cases h;exact⟨rfl,rfl,fun _ _ _=>rfl,fun _ i v d g hv=>by simp at hv⟩
  |cons=>simp[expAll]at h
 |x::r,[],st,st',h=>by cases x<;>simp[expAll]at h
 |x::r,e::l,st,st',h=>by
  have go : ∀ {d0 g0:Nat} {cs:List SV},x.id=some (d0,g0)->e=some cs->expAll (st.set d0 g0 cs) r l=some st' ->
    st'.tmp=st.tmp/\st'.gen=st.gen/\(∀d g,(∀ (i:Nat) (v:TV),(x::r)[i]?=some v->v.id≠some (d,g))->st'.obj d g=st.obj d g) /\
    (distinct (impIds (x::r))=true -> ∀ (i:Nat) (v:TV) (d g:Nat),(x::r)[i]?=some v->v.id=some (d,g) -> ∃cs,(e::l)[i]?=some (some cs)/\st'.obj d g=some cs):=by
   intro d0 g0 cs hid he hx;obtain⟨h1,h2,h3,h4⟩:=expAll_spec hx;refine⟨h1,h2,fun d g hno => ?_,fun hd i v d g hv hi => ?_⟩
   ·rw[h3 d g (fun i v hv=>hno (i+1) v (by simpa using hv))];have : ¬(d=d0/\g=g0):=fun e=>hno 0 x rfl (by rw[hid,e.1,e.2])
    simp only[St.set,if_neg this]
   ·have hr:distinct (impIds r)=true:=by
     cases x<;>simp only[impIds,distinct,xh]at hd<;>first|exact hd.2|exact hd
    cases i with
    |zero=>
     simp only[yK,Option.some.injEq]at hv;subst hv;rw[hid]at hi;cases hi;refine⟨cs,by rw[he];rfl,?_⟩;rw[h3 d0 g0 (fun j u hu hju=>by
      have:=impIds_distinct hd (i:=0) (j:=j+1) (u:=x) (v:=u) rfl (by simpa using hu) hid hju;omega)]
     simp[St.set]
    |succ i=>
     simp only[yQ]at hv ⊢;exact h4 hr i v d g hv hi
  have skip:x.id=none->e=none->expAll st r l=some st' ->
    st'.tmp=st.tmp/\st'.gen=st.gen/\(∀d g,(∀ (i:Nat) (v:TV),(x::r)[i]?=some v->v.id≠some (d,g))->st'.obj d g=st.obj d g) /\
    (distinct (impIds (x::r))=true -> ∀ (i:Nat) (v:TV) (d g:Nat),(x::r)[i]?=some v->v.id=some (d,g) -> ∃cs,(e::l)[i]?=some (some cs)/\st'.obj d g=some cs):=by
   intro hid he hx;obtain⟨h1,h2,h3,h4⟩:=expAll_spec hx;refine⟨h1,h2,fun d g hno=>h3 d g (fun i v hv=>hno (i+1) v (by simpa using hv)),fun hd i v d g hv hi => ?_⟩;have hr:distinct (impIds r)=true:=by
    cases x<;>simp only[impIds,distinct,xh]at hd<;>first|exact hd.2|exact hd
   cases i with
   |zero=>
    simp only[yK,Option.some.injEq]at hv;subst hv;rw[hid]at hi;cases hi
   |succ i=>
    simp only[yQ]at hv ⊢;exact h4 hr i v d g hv hi
  cases x with
  |ptr d0 g0 off=>cases e with
   |none=>simp[expAll]at h
   |some cs=>exact go rfl rfl h
  |ref d0 g0 size off n=>cases e with
   |none=>simp[expAll]at h
   |some cs=>exact go rfl rfl h
  |sv s=>cases e with
   |none=>exact skip rfl rfl h
   |some cs=>simp[expAll]at h
  |nil=>cases e with
   |none=>exact skip rfl rfl h
   |some cs=>simp[expAll]at h
  |undef=>cases e with
   |none=>exact skip rfl rfl h
   |some cs=>simp[expAll]at h
  |skip=>cases e with
   |none=>exact skip rfl rfl h
   |some cs=>simp[expAll]at h
theorem Rel.holds (h:Rel w0 F I Z N β st a w) {d g:Nat} {cs:List SV} (ho:st.obj d g=some cs):Holds w (Mut F β st) (β d g) cs:=by
 obtain⟨us,ty,hb,hall⟩:=h.objs d g cs ho;exact⟨us,ty,hb,hall⟩
theorem import_goes (h:Rel w0 F I Z N β st a w) {call:Callf} (hcall:CallOk P call) {g:FuncId} {caps:List SV} {f:Operand} {args:Array Operand} {tys:Array TypeId} {dst:Option Nat} {st':St} {s:SV} {ars:List Arg} {exps:List (Option (List SV))}
  (hd : ∀d,dst=some d->d<N) (hf:st.eval f = .sv (.fn g caps)) (hdi:distinct (impIds (args.toList.map st.eval))=true) (has:impArgs st (args.toList.map st.eval)=some ars) (hc:call g (ars++caps.map Arg.sv)=some (.sv s,exps))
  (hx:expAll st (args.toList.map st.eval) (exps.take args.toList.length)=some st') (ty:TypeId) (pos:String) (af:Array Edge) (gd:Option (Nat×Bool)) :
  Goes P a ⟨dst,.call { callee := .value f,args:=args,argTypes:=tys },ty,pos,af,gd⟩ w (To w0 F I Z N (st'.putO dst (.sv s))):=by
 have hC:=hcall _ _ _ _ hc;obtain⟨hl,hget⟩:=impArgs_get has;obtain⟨x1,x2,x3,x4⟩:=expAll_spec hx;have x4:=x4 hdi;have hfv:=h.eval f;rw[hf]at hfv;generalize hfe:a.eval f=fv at hfv;have hlen:ars.length=args.size:=by rw[hl];simp
 let B:Nat->Nat:=fun i=>match ((args.toList.map st.eval)[i]?).bind TV.id with
  |some (d,g)=>β d g
  |none=>0
 have hB : ∀ {i:Nat} {v:TV} {d g:Nat},(args.toList.map st.eval)[i]?=some v->v.id=some (d,g)->B i=β d g:=by
  intro i v d g hv hi;simp only[B,hv,Option.bind_some,hi]
 have hval : ∀ {i:Nat} {v:TV},(args.toList.map st.eval)[i]?=some v -> ∃x:Operand,args[i]?=some x/\v=st.eval x:=by
  intro i v hv;rw[zD]at hv;obtain⟨x,hx,rfl⟩:=map_some hv;exact⟨x,by simpa using hx,rfl⟩
 -- the imports' objects
 have himp : ∀ {i:Nat} {x:Arg},(ars++caps.map Arg.sv)[i]?=some x->isImp x=true->i<ars.length /\ ∃ (v:TV) (d g:Nat) (cs:List SV),(args.toList.map st.eval)[i]?=some v/\v.id=some (d,g)/\st.obj d g=some cs:=by
  intro i x hix hi;rcases xi i ars.length with hlt|hge
  ·refine⟨hlt,?_⟩;rw[yf hlt]at hix;obtain⟨v,hv,hcase⟩:=hget i x hix;rcases hcase with⟨s,rfl,_⟩|⟨d,g,cs,rfl,_,ho⟩|⟨d,g,cs,size,off,n,rfl,_,ho⟩
   ·cases hi
   ·exact⟨_,d,g,cs,hv,rfl,ho⟩
   ·exact⟨_,d,g,cs,hv,rfl,ho⟩
  ·rw[yj hge,zD]at hix;obtain⟨s,_,rfl⟩:=map_some hix;cases hi
 cases hfv with
 |fn _ vs _ hvl hvr=>
  refine calls_goes hfe ?_;refine(hC w (Mut F β st) B _ (fun b hb=>h.mut_lt hb) ?_ (fun i x hix => ?_) (fun i j x y hix hjy hi hj e => ?_)).mono ?_
  ·simp[hvl,hlen]
  ·rcases xi i ars.length with hlt|hge
   ·rw[yf hlt]at hix;obtain⟨v,hv,hcase⟩:=hget i x hix;obtain⟨y,hy,rfl⟩:=hval hv;have hgd:(args.map a.eval++vs).getD i undef=a.eval y:=by
     rw[xR,zW (by simpa[<- hlen]using hlt),Array.getElem?_map,hy];rfl
    rw[hgd];have hey:=h.eval y;rcases hcase with⟨s,rfl,hs⟩|⟨d,g,cs,he,rfl,ho⟩|⟨d,g,cs,size,off,n,he,rfl,ho⟩
    ·exact toSV_rep hey hs
    ·rw[he]at hey;rw[hB hv (d:=d) (g:=g) (by rw[he];rfl)];exact⟨hey,.inr ⟨d,g,by rw[ho];rfl,rfl⟩,h.holds ho⟩
    ·rw[he]at hey;rw[hB hv (d:=d) (g:=g) (by rw[he];rfl)];exact⟨hey,.inr ⟨d,g,by rw[ho];rfl,rfl⟩,h.holds ho⟩
   ·rw[yj hge,zD]at hix;obtain⟨s,hs,rfl⟩:=map_some hix;show Rep w _ _ s;have:=hvr _ s hs;rw[xR]at this ⊢;rw[Array.getElem?_append_right (by simp;omega)];simp only[Array.size_map,<- hlen];exact this
  ·obtain⟨_,u,d,g,cs,hu,hiu,ho⟩:=himp hix hi;obtain⟨_,v,d',g',cs',hv,hiv,ho'⟩:=himp hjy hj;rw[hB hu hiu,hB hv hiv]at e;obtain⟨rfl,rfl⟩:=h.inj d g d' g' (by rw[ho];rfl) (by rw[ho'];rfl) e;exact impIds_distinct hdi hu hv hiu hiv
  ·rintro e w' ⟨v,rfl,hr,he,hex⟩
   refine⟨v,rfl,β,?_⟩;have hJ : ∀b,impB (ars++caps.map Arg.sv) B b ↔ ∃ (i:Nat) (v:TV) (d g:Nat) (cs:List SV),(args.toList.map st.eval)[i]?=some v/\v.id=some (d,g)/\st.obj d g=some cs/\β d g=b:=by
    intro b;constructor
    ·rintro⟨i,x,hix,hi,rfl⟩
     obtain⟨_,u,d,g,cs,hu,hiu,ho⟩:=himp hix hi;exact⟨i,u,d,g,cs,hu,hiu,ho,(hB hu hiu).symm⟩
    ·rintro⟨i,u,d,g,cs,hu,hiu,ho,rfl⟩
     have hlt:i<ars.length:=by
      rw[hl];rcases xi i (args.toList.map st.eval).length with h|h
      ·exact h
      ·rw[xl h]at hu;cases hu
     refine⟨i,ars[i],by rw[yf hlt,xX hlt],?_,hB hu hiu⟩;obtain⟨v',hv',hcase⟩:=hget i ars[i] (xX hlt);rw[hu]at hv';cases hv';rcases hcase with⟨s,_,hs⟩|⟨_,_,_,_,e,_⟩|⟨_,_,_,_,_,_,_,e,_⟩
     ·cases u<;>simp[TV.id,TV.toSV]at hiu hs
     ·rw[e];rfl
     ·rw[e];rfl
   have hmem : ∀d g,(∃ (i:Nat) (v:TV),(args.toList.map st.eval)[i]?=some v/\v.id=some (d,g))->(st.obj d g).isSome=true:=by
    rintro d g ⟨i,v,hv,hi⟩
    have hlt:i<ars.length:=by
     rw[hl];rcases xi i (args.toList.map st.eval).length with h|h
     ·exact h
     ·rw[xl h]at hv;cases hv
    obtain⟨v',hv',hcase⟩:=hget i ars[i] (xX hlt);rw[hv]at hv';cases hv';rcases hcase with⟨s,_,hs⟩|⟨d',g',cs,rfl,_,ho⟩|⟨d',g',cs,_,_,_,rfl,_,ho⟩
    ·cases v<;>simp[TV.id,TV.toSV]at hi hs
    ·simp only[TV.id,Option.some.injEq,Prod.mk.injEq]at hi;obtain⟨rfl,rfl⟩:=hi;rw[ho];rfl
    ·simp only[TV.id,Option.some.injEq,Prod.mk.injEq]at hi;obtain⟨rfl,rfl⟩:=hi;rw[ho];rfl
   have hrel:Rel w0 F I Z N β st' a w':=by
    refine h.after he (fun b hb => ?_) x1 x2 (fun d g => ?_) (fun d g cs ho => ?_)
    ·obtain⟨i,u,d,g,cs,hu,hiu,ho,e⟩:=(hJ b).1 hb;exact⟨d,g,by rw[ho];rfl,e⟩
    ·by_cases hin : ∃ (i:Nat) (v:TV),(args.toList.map st.eval)[i]?=some v/\v.id=some (d,g)
     ·obtain⟨i,v,hv,hi⟩:=hin;obtain⟨cs,_,ho⟩:=x4 i v d g hv hi;rw[ho,hmem d g ⟨i,v,hv,hi⟩];rfl
     ·rw[x3 d g (fun i v hv hi=>hin ⟨i,v,hv,hi⟩)]
    ·by_cases hin : ∃ (i:Nat) (v:TV),(args.toList.map st.eval)[i]?=some v/\v.id=some (d,g)
     ·obtain⟨i,v,hv,hi⟩:=hin;obtain⟨cs',hex',ho'⟩:=x4 i v d g hv hi;rw[ho]at ho';cases ho';have hi':i<args.toList.length:=by
       rcases xi i (exps.take args.toList.length).length with h|h
       ·rw[yO]at h;omega
       ·rw[xl h]at hex';cases hex'
      rw[yk hi']at hex';left;obtain⟨cs0,hcs0⟩:=wt.1 (hmem d g ⟨i,v,hv,hi⟩);refine⟨(hJ _).2 ⟨i,v,d,g,cs0,hv,hi,hcs0,rfl⟩,?_⟩;rw[<- hB hv hi];exact hex i cs hex'
     ·right;rw[x3 d g (fun i v hv hi=>hin ⟨i,v,hv,hi⟩)]at ho;refine⟨fun hj => ?_,ho⟩;obtain⟨i,u,d',g',cs',hu,hiu,ho',e⟩:=(hJ _).1 hj;obtain⟨rfl,rfl⟩:=h.inj d' g' d g (by rw[ho'];rfl) (by rw[ho];rfl) e;exact hin ⟨i,u,hu,hiu⟩
   refine hrel.putO (t := .sv s) hd ?_ (fun d g e=>by simp[TV.id]at e);refine Rep.mono (w:=w') (fun _ _ _=>rfl) (fun b _ hm => ?_) hr;rcases hm with hf'|⟨d,g,h1,h2⟩
   ·exact .inl hf'
   ·refine .inr ⟨d,g,?_,h2⟩;by_cases hin : ∃ (i:Nat) (v:TV),(args.toList.map st.eval)[i]?=some v/\v.id=some (d,g)
    ·exact hmem d g hin
    ·rw[x3 d g (fun i v hv hi=>hin ⟨i,v,hv,hi⟩)]at h1;exact h1
mutual
theorem sameSV_eq : ∀ {a b:SV},sameSV a b=true->a=b
 | .bool _,.bool _,h=>by unfold sameSV at h;rw[of_decide_eq_true h]
 | .int _ _,.int _ _,h=>by
  unfold sameSV at h;rw[xh]at h;rw[of_decide_eq_true h.1,of_decide_eq_true h.2]
 | .str a,.str b,h=>by
  unfold sameSV at h;have:=of_decide_eq_true h;congr 1;exact ByteArray.ext (Array.ext' this)
 | .sl _ _,.sl _ _,h=>by
  unfold sameSV at h;rw[xh]at h;rw[of_decide_eq_true h.1,sameL_eq h.2]
 | .agg _,.agg _,h=>by
  unfold sameSV at h;rw[sameL_eq h]
 | .bool _,.int _ _,h | .bool _,.str _,h | .bool _,.sl _ _,h | .bool _,.agg _,h | .bool _,.tup _,h | .bool _,.mem _,h | .bool _,.fn _ _,h | .bool _,.con _,h=>by unfold sameSV at h;cases h
 | .int _ _,.bool _,h | .int _ _,.str _,h | .int _ _,.sl _ _,h | .int _ _,.agg _,h | .int _ _,.tup _,h | .int _ _,.mem _,h | .int _ _,.fn _ _,h | .int _ _,.con _,h=>by unfold sameSV at h;cases h
 | .str _,.bool _,h | .str _,.int _ _,h | .str _,.sl _ _,h | .str _,.agg _,h | .str _,.tup _,h | .str _,.mem _,h | .str _,.fn _ _,h | .str _,.con _,h=>by unfold sameSV at h;cases h
 | .sl _ _,.bool _,h | .sl _ _,.int _ _,h | .sl _ _,.str _,h | .sl _ _,.agg _,h | .sl _ _,.tup _,h | .sl _ _,.mem _,h | .sl _ _,.fn _ _,h | .sl _ _,.con _,h=>by unfold sameSV at h;cases h
 | .agg _,.bool _,h | .agg _,.int _ _,h | .agg _,.str _,h | .agg _,.sl _ _,h | .agg _,.tup _,h | .agg _,.mem _,h | .agg _,.fn _ _,h | .agg _,.con _,h=>by unfold sameSV at h;cases h
 | .tup _,_,h | .mem _,_,h | .fn _ _,_,h | .con _,_,h=>by unfold sameSV at h;cases h
theorem sameL_eq : ∀ {a b:List SV},sameL a b=true->a=b
 | [],[],_=>rfl
 |a::r,b::s,h=>by
  unfold sameL at h;rw[xh]at h;rw[sameSV_eq h.1,sameL_eq h.2]
 | [],_::_,h|_::_,[],h=>by unfold sameL at h;cases h
end
theorem set_same {st:St} {d g:Nat} {cs:List SV} (h:st.obj d g=some cs):st.set d g cs=st:=by
 unfold St.set;cases st;congr 1;funext d' g';split
 ·rename_i e;rw[e.1,e.2];exact h.symm
 ·rfl
theorem allSV_cons {x:TV} {r:List TV} {ss:List SV} (h:allSV (x::r)=some ss) : ∃s l,x.toSV=some s/\allSV r=some l/\ss=s::l:=by
 unfold allSV at h;split at h
 ·rename_i s l h1 h2;cases h;exact⟨s,l,h1,h2,rfl⟩
 ·cases h
theorem sv_impIds : ∀ {r:List TV} {ss:List SV},allSV r=some ss->impIds r=[]
 | [],_,_=>rfl
 |x::r,ss,h=>by
  obtain⟨s,l,h1,h2,_⟩:=allSV_cons h;cases x<;>first|(simp only[impIds];exact sv_impIds h2)|cases h1
theorem sv_impArgs {st:St} : ∀ {r:List TV} {ss:List SV},allSV r=some ss->impArgs st r=some (ss.map Arg.sv)
 | [],_,h=>by cases h;rfl
 |x::r,ss,h=>by
  obtain⟨s,l,h1,h2,rfl⟩:=allSV_cons h;unfold impArgs;rw[sv_impArgs h2];cases x<;>first|(cases h1;rfl)|cases h1
theorem sv_expAll {st:St} : ∀ {r:List TV} {ss:List SV} {e:List (Option (List SV))},allSV r=some ss->e.all Option.isNone=true->e.length=r.length->expAll st r e=some st
 | [],_,e,_,_,hl=>by
  cases e with
  |nil=>rfl
  |cons=>simp at hl
 |x::r,ss,e,h,ha,hl=>by
  obtain⟨s,l,h1,h2,rfl⟩:=allSV_cons h;cases e with
  |nil=>simp at hl
  |cons y e=>
   rw[List.all_cons,xh]at ha;cases y with
   |some y=>exact absurd ha.1 (by simp)
   |none=>
    have:=sv_expAll (st:=st) h2 ha.2 (by simpa using hl);cases x<;>first|exact this|cases h1
theorem ro_goes (h:Rel w0 F I Z N β st a w) {call:Callf} (hcall:CallOk P call) {mu:FuncId->Bool} {g:FuncId} {caps:List SV} {f:Operand} {args:Array Operand} {tys:Array TypeId} {dst:Option Nat} {st':St} (hd : ∀d,dst=some d->d<N)
  (hf:st.eval f = .sv (.fn g caps)) (hs:roCall call mu dst g caps (args.toList.map st.eval) st=some st') (ty:TypeId) (pos:String) (af:Array Edge) (gd:Option (Nat×Bool)) :
  Goes P a ⟨dst,.call { callee := .value f,args:=args,argTypes:=tys },ty,pos,af,gd⟩ w (To w0 F I Z N st'):=by
 have hlen:(args.toList.map st.eval).length=args.toList.length:=zZ _;generalize hvs:args.toList.map st.eval=vs at hs hlen;unfold roCall at hs;split at hs
 ·rename_i d g' r;split at hs
  ·rename_i cs ss ho hss;split at hs
   ·split at hs
    ·rename_i s exps hc;split at hs
     ·rename_i cs' e he;split at hs
      ·rename_i hk;cases hs;rw[xh,xh]at hk;obtain⟨hk1,hk2,hk3⟩:=hk;have hcs:=sameL_eq hk1;subst hcs;have h1:impArgs st (args.toList.map st.eval)=some (.imp cs'::ss.map Arg.sv):=by
        rw[hvs];unfold impArgs;rw[sv_impArgs hss];simp only[ho]
       have h2:distinct (impIds (args.toList.map st.eval))=true:=by
        rw[hvs];show distinct ((d,g')::impIds r)=true;rw[sv_impIds hss];rfl
       have h3:expAll st (args.toList.map st.eval) (exps.take args.toList.length)=some st:=by
        rw[hvs,<- hlen,yS,he];show expAll (st.set d g' cs') r e=some st;rw[set_same ho];exact sv_expAll hss hk2 (of_decide_eq_true hk3)
       have h4:call g ((.imp cs'::ss.map Arg.sv)++caps.map Arg.sv)=some (.sv s,exps):=by
        rw[List.cons_append,<- List.map_append];exact hc
       exact import_goes h hcall hd hf h2 h1 h4 h3 ty pos af gd
      ·cases hs
     ·cases hs
    ·cases hs
   ·cases hs
  ·cases hs
 ·cases hs
theorem acall_goes (h:Rel w0 F I Z N β st a w) {call:Callf} (hcall:CallOk P call) {mu:FuncId->Bool} {f:Operand} {args:Array Operand} {tys:Array TypeId} {dst:Option Nat} {soft:Bool} {st':St} (hd : ∀d,dst=some d->d<N)
  (hs:acall call mu soft dst f args.toList st=some st') (ty:TypeId) (pos:String) (af:Array Edge) (gd:Option (Nat×Bool)) :
  Goes P a ⟨dst,.call { callee := .value f,args:=args,argTypes:=tys },ty,pos,af,gd⟩ w (To w0 F I Z N st'):=by
 unfold acall at hs;split at hs
 ·rename_i g caps hf;split at hs
  ·rename_i ss hss;exact pure_goes h hcall hd hf hss hs ty pos af gd
  ·split at hs
   ·exact ro_goes h hcall hd hf hs ty pos af gd
   ·split at hs
    ·split at hs
     ·rename_i hdi;split at hs
      ·rename_i ars has;split at hs
       ·rename_i r exps hc;split at hs
        ·rename_i s1 hx;split at hs
         ·rename_i s;cases hs;exact import_goes h hcall hd hf hdi has hc hx ty pos af gd
         ·cases hs
        ·cases hs
       ·cases hs
      ·cases hs
     ·cases hs
    ·split at hs
     ·rename_i s1 hfz;split at hs
      ·rename_i ss hss;have h':=h.frzAll hfz;have hf':s1.eval f = .sv (.fn g caps):=by
        have key : ∀ {vs:List TV} {s0 s2:St},frzAll s0 vs=some s2 -> ∀t x,s0.tmp t = .sv x->s2.tmp t = .sv x:=by
         intro vs;induction vs with
         |nil=>intro s0 s2 e t x hx;cases e;exact hx
         |cons v r ih=>
          intro s0 s2 e t x hx;have one : ∀ {d g:Nat} {s3:St},s0.frz d g=some s3->s3.tmp t = .sv x:=by
           intro d g s3 hz;unfold St.frz at hz;split at hz
           ·cases hz
           ·split at hz
            ·cases hz;show (s0.tmp t).frz d g _=_;rw[hx];rfl
            ·cases hz
          unfold frzAll at e;split at e
          ·split at e
           ·split at e
            ·rename_i hz;exact ih e t x (one hz)
            ·cases e
           ·exact ih e t x hx
          ·split at e
           ·split at e
            ·rename_i hz;exact ih e t x (one hz)
            ·cases e
           ·exact ih e t x hx
          ·exact ih e t x hx
        cases f with
        |tmp t=>exact key hfz t _ hf
        |_=>exact hf
       exact pure_goes h' hcall hd hf' hss hs ty pos af gd
      ·cases hs
     ·cases hs
 ·cases hs
end
end Go.Ev
namespace Go.Ev
open Go.RowKit
section
variable {P:Program} {w0 w:World} {F I:Nat->Prop} {Z:Nat->Nat} {N:Nat} {β:Nat->Nat->Nat} {st:St} {a:Act}
theorem step_goes (h:Rel w0 F I Z N β st a w) {call:Callf} (hcall:CallOk P call) {mu:FuncId->Bool} {soft:Bool} {dst:Option Nat} {op:Op} {st':St} (hd : ∀d,dst=some d->d<N)
  (hs:step P call mu soft dst op st=some st') (ty:TypeId) (pos:String) (af:Array Edge) (gd:Option (Nat×Bool)):Goes P a ⟨dst,op,ty,pos,af,gd⟩ w (To w0 F I Z N st'):=by
 unfold step at hs;split at hs
 ·exact acall_goes h hcall hd hs ty pos af gd
 ·rename_i args tys;split at hs
  ·rename_i s x t t' ha ht;split at hs
   ·rename_i htt;subst htt;have hargs:args = #[s,x]:=by apply Array.ext';simpa using ha
    have htys:tys = #[t,t]:=by apply Array.ext';simpa using ht
    subst hargs htys;cases dst with
    |none=>unfold append at hs;split at hs<;>first|(rename_i e;cases e;done)|cases hs|(simp at *)
    |some d=>exact(append_runs h (hd d rfl) hs ty pos af gd).goes
   ·cases hs
  ·cases hs
 ·rename_i args tys;split at hs
  ·rename_i s x t ts ha ht;have hargs:args = #[s,x]:=by apply Array.ext';simpa using ha
   have htys:tys=(t::ts).toArray:=by apply Array.ext';simpa using ht
   subst hargs htys;exact(copy_runs h hd hs ts ty pos af gd).goes
  ·cases hs
 ·split at hs
  ·cases hs
  ·rename_i hn;cases dst with
   |some d=>simp at hn
   |none=>exact(store_runs h hs ty pos af gd).goes
 ·cases dst with
  |none=>simp[hard]at hs
  |some d=>
   simp only[hard]at hs;split at hs
   ·rename_i cs hz;cases hs;exact(alloc_runs h (hd d rfl) hz ty pos af gd).goes
   ·cases hs
 ·cases dst with
  |none=>simp[hard]at hs
  |some d=>
   simp only[hard]at hs;split at hs
   ·rename_i s hx;split at hs
    ·rename_i h1;cases hs;exact(box_runs h (hd d rfl) hx h1 ty pos af gd).goes
    ·cases hs
   ·cases hs
 ·rename_i t n parts;split at hs
  ·split at hs
   ·rename_i size cs hl;cases hs;obtain⟨us,e,hrun,hsz,hlen,hall⟩:=lit_run h hl dst ty pos af gd;refine Runs.goes ⟨_,.inl ⟨_,hrun,β,?_⟩⟩;have he:Ext (fun _=>False) w (w.alloc (.cells us e)):=(Ext.refl _ w).alloc _;refine(h.ext0 he).putO (t := .sv (.sl n cs)) hd ?_ (fun d g e=>by simp[TV.id]at e);have hcell : ∀ (i:Nat) (s:SV),cs[i]?=some s->us[i]?=some (us.getD i undef)/\Rep w (Mut F β st) (us.getD i undef) s:=by
     intro i s hi;obtain⟨_,v,hv,hr⟩:=hall i s hi;rw[xR,hv];exact⟨rfl,hr⟩
    refine Rep.sl _ _ _ (xQ _) cs (fun i=>us.getD i undef) (fun hm => ?_) (fun i s hi => ?_) (fun i s hi => ?_)
    ·exact absurd (h.mut_lt hm) (Nat.lt_irrefl _)
    ·rw[add_mk,yV,World.cell?_alloc_new];exact(hcell i s hi).1
    ·exact Rep.mono (fun p hp _=>World.cell?_alloc_lt w _ p hp) (fun _ _ hm=>hm) (hcell i s hi).2
   ·cases hs
  ·cases dst with
   |none=>simp[hard]at hs
   |some d=>
    simp only[hard]at hs;split at hs
    ·rename_i size cs hl;cases hs;obtain⟨us,e,hrun,hsz,hlen,hall⟩:=lit_run h hl (some d) ty pos af gd;refine Runs.goes ⟨_,.inl ⟨_,hrun,_,h.new (hd d rfl) hall ⟨n,us,e,by rw[upd_self],xQ _,by rw[upd_self];exact heap_alloc_new w _,by omega⟩ (fun d' g' e' => ?_)⟩⟩;simp only[TV.id,Option.some.injEq,Prod.mk.injEq]at e';exact⟨e'.1.symm,e'.2.symm⟩
    ·split at hs
     ·rename_i s1 hz;split at hs
      ·rename_i size cs hl;cases hs;have h':=h.frzAll hz;obtain⟨us,e,hrun,hsz,hlen,hall⟩:=lit_run h' hl (some d) ty pos af gd;refine Runs.goes ⟨_,.inl ⟨_,hrun,_,h'.new (hd d rfl) hall ⟨n,us,e,by rw[upd_self],xQ _,by rw[upd_self];exact heap_alloc_new w _,by omega⟩ (fun d' g' e' => ?_)⟩⟩;simp only[TV.id,Option.some.injEq,Prod.mk.injEq]at e';exact⟨e'.1.symm,e'.2.symm⟩
      ·cases hs
     ·cases hs
 ·rename_i t l c;cases dst with
  |none=>simp[hard]at hs
  |some d=>
   simp only[hard]at hs;split at hs
   ·rename_i e size bytes he;split at hs
    ·rename_i n m z hl hc hz;split at hs
     ·rename_i hcond;obtain⟨rfl,hn,hb,hzl,_⟩:=hcond;cases hs;exact(make_runs h (hd d rfl) he hl hc hz hn hb hzl ty pos af gd).goes
     ·cases hs
    ·cases hs
   ·cases hs
 ·split at hs
  ·rename_i v hv;cases hs;exact(val_runs h (o:=⟨dst,op,ty,pos,af,gd⟩) hd hv).goes
  ·split at hs
   ·cases hs
   ·unfold frzV at hs;split at hs
    ·rename_i t parts _ _ _ _ _ _ _ _ _;split at hs
     ·rename_i s1 hz;split at hs
      ·rename_i v hv;cases hs;exact(val_runs (h.frzAll hz) (o:=⟨dst,.build t parts,ty,pos,af,gd⟩) hd hv).goes
      ·cases hs
     ·cases hs
    ·rename_i f first captured _ _ _ _ _ _ _ _ _
     split at hs
     ·rename_i s1 hz;split at hs
      ·rename_i v hv;cases hs;exact(val_runs (h.frzAll hz) (o:=⟨dst,.makeFunc f first captured,ty,pos,af,gd⟩) hd hv).goes
      ·cases hs
     ·cases hs
    ·rename_i s t x _ _ _ _ _ _ _ _ _;split at hs
     ·rename_i s1 hz;split at hs
      ·rename_i v hv;cases hs;exact(val_runs (h.frzAll hz) (o:=⟨dst,.convert s t x,ty,pos,af,gd⟩) hd hv).goes
      ·cases hs
     ·cases hs
    ·cases hs
theorem stepS_goes (h:Rel w0 F I Z N β st a w) {call:Callf} (hcall:CallOk P call) {mu:FuncId->Bool} {soft:Bool} {ops:Array Oper} {dst:Option Nat} {op:Op} {st':St} (hd : ∀d,dst=some d->d<N)
  (hs:stepS P call mu soft ops dst op st=some st') (ty:TypeId) (pos:String) (af:Array Edge) (gd:Option (Nat×Bool)):Goes P a ⟨dst,op,ty,pos,af,gd⟩ w (To w0 F I Z N st'):=by
 unfold stepS at hs;split at hs
 ·cases hs
 ·exact step_goes h hcall hd hs ty pos af gd
theorem wanted_rep {ops:Array Oper} {o:Oper} (h:Rel w0 F I Z N β st a w) {j:Nat} {want b:Bool} {t:Nat} (hg:o.guard=some (j,want)) (ht:(ops[j]?).bind (·.dst)=some t) (hb:st.tmp t = .sv (.bool b)) :
  Region.wanted o (yielded ops a.tmps)=(b==want):=by
 have hv:=h.tmps t;rw[hb]at hv;have hv:=rep_bool hv;have hlt:a.tmps[t]?=some (.bool b):=by
  rw[xR]at hv;cases hx:a.tmps[t]? with
  |none=>rw[hx]at hv;simp[undef]at hv
  |some x=>rw[hx]at hv;simp only[wz]at hv;rw[hv]
 simp only[Region.wanted,hg,yielded,ht,Option.bind_some,hlt];cases b<;>cases want<;>rfl
theorem wanted_skip {ops:Array Oper} {o:Oper} (h:Rel w0 F I Z N β st a w) {j:Nat} {want:Bool} {t:Nat} (hg:o.guard=some (j,want)) (ht:(ops[j]?).bind (·.dst)=some t) (hb:st.tmp t = .skip) :
  Region.wanted o (yielded ops a.tmps)=false:=by
 have hv:=h.tmps t;rw[hb]at hv;have hv:a.tmps.getD t undef=undef:=hv;rw[xR]at hv;simp only[Region.wanted,hg,yielded,ht,Option.bind_some];cases hx:a.tmps[t]? with
 |none=>rfl
 |some x=>
  rw[hx]at hv;simp only[wz]at hv;rw[hv];rfl
theorem stepO_wpOp (h:Rel w0 F I Z N β st a w) {call:Callf} (hcall:CallOk P call) {mu:FuncId->Bool} {soft:Bool} {ops:Array Oper} {i:Nat} {o:Oper} (hi:ops[i]?=some o) (hd : ∀d,o.dst=some d->d<N) {st':St}
  (hs:stepO P call mu soft ops o st=some st') {K:Act->World->Prop} (hK : ∀a' w',To w0 F I Z N st' a' w'->K a' w') (Q:Exit->Act->World->Prop):wpOp P ops Q i K a w:=by
 unfold wpOp;simp only[hi];unfold stepO at hs;split at hs
 ·rename_i hg;have hw:Region.wanted o (yielded ops a.tmps)=true:=by simp[Region.wanted,hg]
  rw[if_pos hw];exact .inl (Oper.wp_mono (fun a w=>hK a w) (stepS_goes h hcall hd hs o.type o.pos o.after o.guard Q))
 ·rename_i j want hg;split at hs
  ·rename_i t ht;split at hs
   ·rename_i b hb;rw[wanted_rep h hg ht hb];split at hs
    ·rename_i hbw;rw[if_pos (by simp[hbw])];exact .inl (Oper.wp_mono (fun a w=>hK a w) (stepS_goes h hcall hd hs o.type o.pos o.after o.guard Q))
    ·rename_i hbw;cases hs;rw[if_neg (by simpa using hbw)];exact hK _ _ ⟨β,h.putO (t := .skip) hd rfl (fun d g e=>by simp[TV.id]at e)⟩
   ·rename_i hb;cases hs;rw[wanted_skip h hg ht hb,if_neg (by simp)];exact hK _ _ ⟨β,h.putO (t := .skip) hd rfl (fun d g e=>by simp[TV.id]at e)⟩
   ·cases hs
  ·cases hs
end
end Go.Ev
namespace Go.Ev
open Go.RowKit
inductive Eff where
 |v (t:TV)
 |s (d g:Nat) (cs:List SV)
 |n (cs:List SV) (r:Option (Nat×Nat))
def Eff.app (dst:Option Nat) (st:St):Eff->St
 | .v t=>st.putO dst t
 | .s d g cs=>st.set d g cs
 | .n cs r=>match dst with
  |some d=>st.new d cs (match r with|none => .ptr d (st.gen d) 0|some (size,len) => .ref d (st.gen d) size 0 len)
  |none=>st
section
variable {P:Program} {call:Callf} {mu:FuncId->Bool}
theorem eval_congr {st st2:St} {x:Operand} (h : ∀t,x = .tmp t->st2.tmp t=st.tmp t):st2.eval x=st.eval x:=by
 cases x with
 |tmp t=>exact h t rfl
 |_=>rfl
theorem map_congr {st st2:St} {l:List Operand} (h : ∀x∈l,st2.eval x=st.eval x):l.map st2.eval=l.map st.eval:=List.map_congr_left h
theorem parts_congr {st st2:St} : ∀ {l:List (Nat×Operand)},(∀p∈l,st2.eval p.2=st.eval p.2)->partsSV st2 l=partsSV st l
 | [],_=>rfl
 |(i,x)::r,h=>by
  unfold partsSV;rw[h (i,x) yW,parts_congr (fun p hp=>h p (yb _ hp))]
theorem val_congr {st st2:St} {op:Op} (h : ∀x∈op.operands,st2.eval x=st.eval x) (ho : ∀d g,adrOp st op=some d->st2.obj d g=st.obj d g):val P st2 op=val P st op:=by
 cases op with
 |move x=>simp only[val,h x (by simp[Op.operands])]
 |assign x=>simp only[val,h x (by simp[Op.operands])]
 |pick c a b=>simp only[val,h c (by simp[Op.operands]),h a (by simp[Op.operands]),h b (by simp[Op.operands])]
 |build t ps=>
  have:partsSV st2 ps.toList=partsSV st ps.toList:=parts_congr fun p hp=>h p.2 (by
   simp only[Op.operands,List.mem_toArray,List.mem_map];exact⟨p,hp,rfl⟩)
  simp only[val,this]
 |load t x=>
  have hx:st2.eval x=st.eval x:=h x (by simp[Op.operands]);simp only[val,hx];cases e:st.eval x with
  |ptr d g off=>simp only[ho d g (by simp[adrOp,e,TV.adr])]
  |sv s=>cases s<;>rfl
  |_=>rfl
 |binOp op t x y yt=>simp only[val,h x (by simp[Op.operands]),h y (by simp[Op.operands])]
 |unOp op t x=>simp only[val,h x (by simp[Op.operands])]
 |nilCheck x=>simp only[val,h x (by simp[Op.operands])]
 |convert s d x=>simp only[val,h x (by simp[Op.operands])]
 |extract x i=>simp only[val,h x (by simp[Op.operands])]
 |field t x f=>simp only[val,h x (by simp[Op.operands])]
 |fieldAddr t x f=>simp only[val,h x (by simp[Op.operands])]
 |indexAddr t x ix=>simp only[val,h x (by simp[Op.operands]),h ix (by simp[Op.operands])]
 |index t x ix=>simp only[val,h x (by simp[Op.operands]),h ix (by simp[Op.operands])]
 |slice t x lo hi mx=>
  have h1:st2.eval x=st.eval x:=h x (by simp[Op.operands]);have h2:loNat st2 lo=loNat st lo:=by
   cases lo with
   |none=>rfl
   |some o=>simp only[loNat,h o (by simp[Op.operands])]
  have h3:hiNat st2 x hi=hiNat st x hi:=by
   cases hi with
   |none=>simp only[hiNat,h1]
   |some o=>simp only[hiNat,h o (by simp[Op.operands])]
  simp only[val,h1,h2,h3]
 |makeFunc fn first captured=>
  cases fn with
  |func f=>
   have:captured.toList.map st2.eval=captured.toList.map st.eval:=map_congr fun x hx=>h x (by simp[Op.operands];exact .inr (by simpa using hx))
   simp only[val,this]
  |_=>rfl
 |call c=>
  obtain⟨callee,args,tys⟩:=c;cases callee with
  |value f=>rfl
  |invoke r m=>rfl
  |builtin b=>
   have hm:args.toList.map st2.eval=args.toList.map st.eval:=map_congr fun x hx=>h x (by simp[Op.operands,Call.operands];simpa using hx)
   cases b with
   |len=>
    unfold val;simp only;cases ha:args.toList with
    |nil=>rfl
    |cons x r=>
     have hx:st2.eval x=st.eval x:=h x (by simp[Op.operands,Call.operands];exact Array.mem_toList_iff.1 (by rw[ha];exact yW));cases r with
     |nil=>cases tys.toList with
      |nil=>rfl
      |cons t r'=>cases r' with
       |nil=>simp only[hx]
       |cons _ _=>rfl
     |cons _ _=>rfl
   |min=>simp only[val,hm]
   |max=>simp only[val,hm]
   |_=>rfl
 |_=>rfl
theorem reads_op {ops:Array Oper} {o:Oper} {st st2:St} (h : ∀t∈readsOf ops o,st2.tmp t=st.tmp t) : ∀x∈o.op.operands,st2.eval x=st.eval x:=by
 intro x hx;refine eval_congr fun t ht=>h t ?_
 subst ht;exact wH _ (List.mem_filterMap.2 ⟨.tmp t,by simpa using hx,rfl⟩)
theorem roCall_eff {dst:Option Nat} {g:FuncId} {caps:List SV} {vs:List TV} {st s1:St} (h:roCall call mu dst g caps vs st=some s1) :
  ∃s d g' r,vs = .ptr d g' 0::r/\s1=st.putO dst (.sv s)/\mu g=true /\ ∀st2:St,st2.obj d g'=st.obj d g'->roCall call mu dst g caps vs st2=some (st2.putO dst (.sv s)):=by
 unfold roCall at h;split at h
 ·rename_i d g' r;split at h
  ·rename_i cs ss ho hss;split at h
   ·rename_i hm;split at h
    ·rename_i s exps hc;split at h
     ·rename_i cs' e he;split at h
      ·rename_i hk;cases h;refine⟨s,d,g',r,rfl,rfl,hm,fun st2 h2 => ?_⟩;unfold roCall;simp only[h2,ho,hss];rw[if_pos hm];simp only[hc,he];rw[if_pos hk]
      ·cases h
     ·cases h
    ·cases h
   ·cases h
  ·cases h
 ·cases h
theorem step_eff {st s1:St} {dst:Option Nat} {op:Op} (hh:isHard op=false) (hs:step P call mu true dst op st=some s1) :
  ∃e:Eff,s1=e.app dst st/\(∀d g cs,e = .s d g cs->isStore op=true/\adrOp st op=some d/\dst=none)/\(∀cs r,e = .n cs r->isAlloc op=true) /\
   ∀st2:St,(∀x∈op.operands,st2.eval x=st.eval x)->(∀d g,adrOp st op=some d->st2.obj d g=st.obj d g)->step P call mu true dst op st2=some (e.app dst st2):=by
 unfold step at hs;split at hs
 ·-- a call
  rename_i f args tys;unfold acall at hs;split at hs
  ·rename_i g caps hf;split at hs
   ·rename_i ss hss;cases hc:call g ((ss++caps).map Arg.sv) with
    |none=>rw[hc]at hs;cases hs
    |some re=>
     obtain⟨r,exps⟩:=re;rw[hc]at hs;cases r with
     |obj cs=>simp[afterCall]at hs
     |row cs size off n=>
      cases hs;refine⟨.v (.sv (.sl n ((cs.drop off).take (n*size)))),rfl,(by intro _ _ _ e;cases e),(by intro _ _ e;cases e),fun st2 h _ => ?_⟩;have hf2:st2.eval f = .sv (.fn g caps):=(h f (by simp[Op.operands,Call.operands])).trans hf;have hm:args.toList.map st2.eval=args.toList.map st.eval:=map_congr fun x hx=>h x (by simp[Op.operands,Call.operands];exact .inr (by simpa using hx))
      show acall call mu true dst f args.toList st2=_;unfold acall;rw[hf2];simp only;rw[hm,hss];simp only;rw[hc];rfl
     |sv s=>
      cases hs;refine⟨.v (.sv s),rfl,(by intro _ _ _ e;cases e),(by intro _ _ e;cases e),fun st2 h _ => ?_⟩;have hf2:st2.eval f = .sv (.fn g caps):=(h f (by simp[Op.operands,Call.operands])).trans hf;have hm:args.toList.map st2.eval=args.toList.map st.eval:=map_congr fun x hx=>h x (by simp[Op.operands,Call.operands];exact .inr (by simpa using hx))
      show acall call mu true dst f args.toList st2=_;unfold acall;rw[hf2];simp only;rw[hm,hss];simp only;rw[hc];rfl
   ·rename_i hss;rw[if_pos rfl]at hs;obtain⟨s,d,g',r,hvs,rfl,hmu,hro⟩:=roCall_eff hs;refine⟨.v (.sv s),rfl,(by intro _ _ _ e;cases e),(by intro _ _ e;cases e),fun st2 h hobj => ?_⟩;have hf2:st2.eval f = .sv (.fn g caps):=(h f (by simp[Op.operands,Call.operands])).trans hf;have hm:args.toList.map st2.eval=args.toList.map st.eval:=map_congr fun x hx=>h x (by simp[Op.operands,Call.operands];exact .inr (by simpa using hx))
    show acall call mu true dst f args.toList st2=_;unfold acall;rw[hf2];simp only;rw[hm,hss];simp only;simp only[if_true];refine hro st2 (hobj d g' ?_);cases ha:args.toList with
    |nil=>rw[ha]at hvs;cases hvs
    |cons x l=>
     rw[ha,wL]at hvs;injection hvs with e1 _
     simp only[adrOp,ha,e1,TV.adr]
  ·cases hs
 ·cases hh
 ·cases hh
 ·-- a store
  rename_i t x y;split at hs
  ·cases hs
  ·rename_i hn;have hdn:dst=none:=by cases dst with
    |none=>rfl
    |some d=>simp at hn
   subst hdn;unfold store at hs;split at hs
   ·rename_i b size d g off hsh hx;split at hs
    ·rename_i s hy;split at hs
     ·rename_i cs ho;split at hs
      ·rename_i hc;cases hs;refine⟨.s d g (splice cs off s.cells),rfl,(by intro _ _ _ e;cases e;exact⟨rfl,by simp[adrOp,hx,TV.adr],rfl⟩),(by intro _ _ e;cases e),fun st2 h hobj => ?_⟩;have hx2:st2.eval x = .ptr d g off:=(h x (by simp[Op.operands])).trans hx;have hy2:st2.eval y=st.eval y:=h y (by simp[Op.operands]);show store P true st2 t x y=_;unfold store;rw[hsh,hx2];simp only;rw[hy2,hy];simp only;rw[hobj d g (by simp[adrOp,hx,TV.adr]),ho];simp only;rw[if_pos hc];rfl
      ·cases hs
     ·cases hs
    ·cases hs
   ·cases hs
 ·-- a new object
  rename_i t;cases dst with
  |none=>simp[hard]at hs
  |some d=>
   simp only[hard]at hs;split at hs
   ·rename_i cs hz;cases hs;refine⟨.n cs none,rfl,(by intro _ _ _ e;cases e),(by intro _ _ _;rfl),fun st2 _ _ => ?_⟩;show hard P (some d) st2 (.alloc t)=_;simp only[hard,hz];rfl
   ·cases hs
 ·cases hh
 ·-- a slice that is written out
  rename_i t n parts;split at hs
  ·split at hs
   ·rename_i size cs hl;cases hs;refine⟨.v (.sv (.sl n cs)),rfl,(by intro _ _ _ e;cases e),(by intro _ _ e;cases e),fun st2 h _ => ?_⟩;have:litC P st2 t n parts=litC P st t n parts:=by
     unfold litC;rw[parts_congr fun p hp=>h p.2 (by
      simp only[Op.operands,List.mem_toArray,List.mem_map];exact⟨p,hp,rfl⟩)]
    show (match litC P st2 t n parts with|some (_,cs)=>some (st2.putO dst (.sv (.sl n cs)))|none=>none)=_;rw[this,hl];rfl
   ·cases hs
  ·rename_i hn;exact absurd rfl hn
 ·-- a new slice
  rename_i t l c;cases dst with
  |none=>simp[hard]at hs
  |some d=>
   simp only[hard]at hs;split at hs
   ·rename_i e size bytes he;split at hs
    ·rename_i n m z hl hc hz;split at hs
     ·rename_i hcond;cases hs;refine⟨.n ((List.replicate n z).flatten) (some (size,n)),rfl,(by intro _ _ _ e;cases e),(by intro _ _ _;rfl),fun st2 h _ => ?_⟩;have h1:natTV (st2.eval l)=some n:=by rw[h l (by simp[Op.operands])];exact hl
      have h2:natTV (st2.eval c)=some m:=by rw[h c (by simp[Op.operands])];exact hc
      show hard P (some d) st2 (.makeSlice t l c)=_;simp only[hard,he,h1,h2,hz];rw[if_pos hcond];rfl
     ·cases hs
    ·cases hs
   ·cases hs
 ·rename_i h1 h2 h3 h4 h5 h6 h7 h8;split at hs
  ·rename_i v hv;cases hs;refine⟨.v v,rfl,(by intro _ _ _ e;cases e),(by intro _ _ e;cases e),fun st2 h hobj => ?_⟩;have h2:val P st2 op=some v:=(val_congr h hobj).trans hv;unfold step;split;case h_9=>rw[h2];rfl
   all_goals (exfalso;solve_by_elim)
  ·simp at hs
theorem sv_adr {x:TV} {s:SV} (h:x.toSV=some s):x.adr=none:=by cases x<;>first|rfl|cases h
theorem step_adr {st s1:St} {dst:Option Nat} {op:Op} {d:Nat} (hs:step P call mu true dst op st=some s1) (had:adrOp st op=some d):(isMem op=true/\isAlloc op=false) \/ ∃g,mu g=true:=by
 cases op with
 |load t x=>exact .inl ⟨rfl,rfl⟩
 |store t x y=>exact .inl ⟨rfl,rfl⟩
 |call c=>
  obtain⟨callee,args,tys⟩:=c;cases callee with
  |value f=>
   have hs:acall call mu true dst f args.toList st=some s1:=hs;unfold acall at hs;split at hs
   ·rename_i g caps hf;split at hs
    ·rename_i ss hss;simp only[adrOp]at had;cases ha:args.toList with
     |nil=>rw[ha]at had;cases had
     |cons x l=>
      rw[ha]at had hss;rw[wL]at hss;obtain⟨s,_,h1,_⟩:=allSV_cons hss;simp only[sv_adr h1]at had;cases had
    ·rw[if_pos rfl]at hs;obtain⟨_,_,_,_,_,_,hmu,_⟩:=roCall_eff hs;exact .inr ⟨g,hmu⟩
   ·cases hs
  |_=>simp[adrOp]at had
 |_=>simp[adrOp]at had
end
end Go.Ev
namespace Go.Ev
open Go.RowKit
section
variable {P:Program} {call:Callf} {mu:FuncId->Bool}
theorem stepS_some {soft:Bool} {ops:Array Oper} {dst:Option Nat} {op:Op} {st s1:St} (h:stepS P call mu soft ops dst op st=some s1):step P call (muS mu soft ops) soft dst op st=some s1:=by
 unfold stepS at h;split at h
 ·cases h
 ·exact h
theorem stepO_eff {ops:Array Oper} {o:Oper} {st s1:St} (hh:isHard o.op=false) (hs:stepO P call mu true ops o st=some s1) :
  ∃ (e:Eff) (rd:Option Nat),s1=e.app o.dst st/\(∀d g cs,e = .s d g cs->isStore o.op=true/\rd=some d/\o.dst=none)/\(∀cs r,e = .n cs r->isAlloc o.op=true) /\
   (∀d,rd=some d->(isMem o.op=true/\isAlloc o.op=false/\lkv ops o.op (some d)=true)\/noW ops=true) /\
   ∀st2:St,(∀t∈readsOf ops o,st2.tmp t=st.tmp t)->(∀d g,rd=some d->st2.obj d g=st.obj d g)->stepO P call mu true ops o st2=some (e.app o.dst st2):=by
 have key:stepS P call mu true ops o.dst o.op st=some s1 -> ∃ (e:Eff) (rd:Option Nat),s1=e.app o.dst st/\(∀d g cs,e = .s d g cs->isStore o.op=true/\rd=some d/\o.dst=none)/\(∀cs r,e = .n cs r->isAlloc o.op=true) /\
   (∀d,rd=some d->(isMem o.op=true/\isAlloc o.op=false/\lkv ops o.op (some d)=true)\/noW ops=true) /\
   ∀st2:St,(∀t∈readsOf ops o,st2.tmp t=st.tmp t)->(∀d g,rd=some d->st2.obj d g=st.obj d g)->stepS P call mu true ops o.dst o.op st2=some (e.app o.dst st2):=by
  intro h;obtain⟨e,h1,h2,h3,h4⟩:=step_eff hh (stepS_some h);have hl:isMem o.op=false\/lkv ops o.op (adrOp st o.op)=true:=by
   unfold stepS at h;split at h
   ·cases h
   ·rename_i hn;cases hm:isMem o.op with
    |false=>exact .inl rfl
    |true=>
     right;rw[hm]at hn;simpa using hn
  refine⟨e,adrOp st o.op,h1,h2,h3,fun d hd => ?_,fun st2 hr ho => ?_⟩
  ·rcases step_adr (stepS_some h) hd with hk|⟨g,hg⟩
   ·refine .inl ⟨hk.1,hk.2,?_⟩;rcases hl with h|h
    ·rw[hk.1]at h;cases h
    ·rw[hd]at h;exact h
   ·right;have hg:(mu g&&noW ops)=true:=hg;rw[xh]at hg;exact hg.2
  ·have ha:adrOp st2 o.op=adrOp st o.op:=by
    have:=reads_op (ops:=ops) (o:=o) hr
    revert this
    cases o.op with
    |call c=>
     intro this;obtain⟨callee,args,tys⟩:=c;cases callee with
     |value f=>
      simp only[adrOp];cases ha:args.toList with
      |nil=>rfl
      |cons x l=>
       simp only;rw[this x (by simp[Op.operands,Call.operands];exact .inr (by have:x∈args.toList:=(by rw[ha];exact yW);simpa using this))]
     |_=>rfl
    |_=>intro this;first|rfl|(simp only[adrOp];rw[this _ (by simp[Op.operands])])
   unfold stepS;rw[ha,if_neg]
   ·exact h4 st2 (reads_op hr) ho
   ·rcases hl with h|h<;>simp[h]
 unfold stepO at hs;split at hs
 ·rename_i hg;obtain⟨e,rd,h1,h2,h3,h4,h5⟩:=key hs;refine⟨e,rd,h1,h2,h3,h4,fun st2 hr ho => ?_⟩;unfold stepO;rw[hg];exact h5 st2 hr ho
 ·rename_i j want hg;split at hs
  ·rename_i t ht;split at hs
   ·rename_i b hb;have htr:t∈readsOf ops o:=by
     unfold readsOf;rw[hg];simp only[ht];exact List.mem_append_right _ (by simp)
    split at hs
    ·rename_i hbw;obtain⟨e,rd,h1,h2,h3,h4,h5⟩:=key hs;refine⟨e,rd,h1,h2,h3,h4,fun st2 hr ho => ?_⟩;unfold stepO;rw[hg];simp only[ht];rw[hr t htr,hb];simp only;rw[if_pos hbw];exact h5 st2 hr ho
    ·rename_i hbw;cases hs;refine⟨.v .skip,none,rfl,(by intro _ _ _ e;cases e),(by intro _ _ e;cases e),(by intro _ e;cases e),fun st2 hr _ => ?_⟩;unfold stepO;rw[hg];simp only[ht];rw[hr t htr,hb];simp only;rw[if_neg hbw];rfl
   ·rename_i hb;have htr:t∈readsOf ops o:=by
     unfold readsOf;rw[hg];simp only[ht];exact List.mem_append_right _ (by simp)
    cases hs;refine⟨.v .skip,none,rfl,(by intro _ _ _ e;cases e),(by intro _ _ e;cases e),(by intro _ e;cases e),fun st2 hr _ => ?_⟩;unfold stepO;rw[hg];simp only[ht];rw[hr t htr,hb];rfl
   ·cases hs
  ·cases hs
theorem putO_other {st:St} {dst:Option Nat} {v:TV} {t:Nat} (h : ∀d,dst=some d->t≠d):(st.putO dst v).tmp t=st.tmp t:=by
 cases dst with
 |none=>rfl
 |some d=>exact if_neg (h d rfl)
theorem calm_symm {x y:Op}:calm x y=calm y x:=by
 unfold calm;cases isW x<;>cases isW y<;>cases isMem x<;>cases isMem y<;>rfl
theorem apartX_symm {a b:Option Operand} (h:apartX a b=true):apartX b a=true:=by
 cases a with
 |none=>cases b with
  |none=>rfl
  |some b=>cases b<;>rfl
 |some a=>cases b with
  |none=>cases a<;>rfl
  |some b=>
   cases a<;>cases b<;>first|rfl|cases h|(simp only[apartX,bne_iff_ne]at h ⊢;exact fun e=>h e.symm)
theorem apart_symm {x y:Op} (h:apart x y=true):apart y x=true:=by
 unfold apart at h ⊢;rw[Bool.or_comm (isStore y)];simp only[Bool.or_eq_true]at h ⊢;rcases h with h|h
 ·exact .inl h
 ·exact .inr (apartX_symm h)
theorem indep_parts {ops:Array Oper} {x y:Oper} (h:indep ops x y=true):isHard x.op=false/\isHard y.op=false/\(∀d,x.dst=some d->d∉readsOf ops y/\y.dst≠some d)/\(∀d,y.dst=some d->d∉readsOf ops x) /\
  (calm x.op y.op=true\/(calmAll ops=false/\apart x.op y.op=true)):=by
 unfold indep at h;simp only[xh,Bool.not_eq_true',Bool.or_eq_true]at h;obtain⟨⟨h0,h0'⟩,h1,h2,h3⟩:=h;refine⟨h0,h0',fun d hd => ?_,fun d hd => ?_,h3⟩
 ·rw[hd]at h1;simpa using h1
 ·rw[hd]at h2;simpa using h2
theorem far {ops:Array Oper} {p q:Oper} (hp:p∈ops.toList) (hi:calm p.op q.op=true\/(calmAll ops=false/\apart p.op q.op=true)) (hr : ∀d,p.dst=some d->d∉readsOf ops q) {d d':Nat}
  (hq:isMem q.op=true/\isAlloc q.op=false/\lkv ops q.op (some d')=true) (hw:(isStore p.op=true/\lkv ops p.op (some d)=true)\/(isAlloc p.op=true/\p.dst=some d)):d≠d':=by
 intro e;subst e;have hpW:isW p.op=true:=by
  unfold isW;rcases hw with h|h<;>simp[h.1]
 have hnc:calmAll ops=false/\apart p.op q.op=true:=by
  refine hi.resolve_left fun hc => ?_
  unfold calm at hc;rw[hpW,hq.1]at hc;simp at hc
 obtain⟨hca,hap⟩:=hnc;have hq3:=hq.2.2;unfold lkv at hq3;rw[hca,Bool.false_or]at hq3;have rd : ∀ {t:Nat} (x:Operand),x = .tmp t->x∈q.op.operands->t∈readsOf ops q:=by
  intro t x hx hm;subst hx;exact wH _ (List.mem_filterMap.2 ⟨.tmp t,by simpa using hm,rfl⟩)
 rcases hw with⟨hs,hl⟩|⟨ha,hd⟩
 ·unfold lkv at hl;rw[hca,Bool.false_or]at hl;cases hpo:p.op with
  |store t x y=>
   rw[hpo]at hl hap;simp only at hl;cases x with
   |tmp s=>
    have hsd:s=d:=by simpa using hl
    subst hsd;have hmem:s∈lkT ops:=List.mem_filterMap.2 ⟨p,hp,by simp only[hpo]⟩;cases hqo:q.op with
    |load t' z=>
     rw[hqo]at hq3 hap;simp only at hq3;rw[zJ]at hq3;have:=hq3 s hmem;cases z with
     |tmp u=>
      simp[apart,apartX,memOp,isStore]at hap this;exact hap this.symm
     |_=>simp at this
    |store t' z z' =>
     rw[hqo]at hq3 hap;simp only at hq3;cases z with
     |tmp u=>
      simp[apart,apartX,memOp,isStore]at hap hq3;exact hap hq3.symm
     |_=>simp at hq3
    |_=>
     have:=hq.1;have h2:=hq.2.1;rw[hqo]at this h2;first|(simp[isMem,isStore,isLoad,isAlloc]at this;done)|(simp[isAlloc]at h2)
   |_=>simp at hl
  |_=>rw[hpo]at hs;cases hs
 ·have hmem:d∈lkT ops:=by
   refine List.mem_filterMap.2 ⟨p,hp,?_⟩;cases hpo:p.op with
   |alloc t=>simp only[hd]
   |makeSlice t l c=>simp only[hd]
   |_=>rw[hpo]at ha;cases ha
  have hnr:=hr d hd;cases hqo:q.op with
  |load t' z=>
   rw[hqo]at hq3;simp only at hq3;rw[zJ]at hq3;have:=hq3 d hmem;cases z with
   |tmp u=>
    simp at this;subst this;exact hnr (rd (.tmp u) rfl (by rw[hqo];simp[Op.operands]))
   |_=>simp at this
  |store t' z z' =>
   rw[hqo]at hq3;simp only at hq3;cases z with
   |tmp u=>
    simp at hq3;subst hq3;exact hnr (rd (.tmp u) rfl (by rw[hqo];simp[Op.operands]))
   |_=>simp at hq3
  |_=>
   have:=hq.1;have h2:=hq.2.1;rw[hqo]at this h2;first|(simp[isMem,isStore,isLoad,isAlloc]at this;done)|(simp[isAlloc]at h2)
theorem app_tmp {e:Eff} {st:St} {dst:Option Nat} {t:Nat} (h : ∀d,dst=some d->t≠d):(e.app dst st).tmp t=st.tmp t:=by
 cases e with
 |v u=>exact putO_other h
 |s d g cs=>rfl
 |n cs r=>cases dst with
  |none=>rfl
  |some d=>exact if_neg (h d rfl)
theorem app_gen {e:Eff} {st:St} {dst:Option Nat} {d:Nat} (h:dst≠some d):(e.app dst st).gen d=st.gen d:=by
 cases e with
 |v u=>cases dst<;>rfl
 |s d g cs=>rfl
 |n cs r=>cases dst with
  |none=>rfl
  |some d'=>exact if_neg (fun e=>h (by rw[e]))
theorem app_obj {e:Eff} {st:St} {dst:Option Nat} {d g:Nat} (hs : ∀d' g' cs,e = .s d' g' cs->d'≠d) (hn : ∀cs r,e = .n cs r->dst≠some d):(e.app dst st).obj d g=st.obj d g:=by
 cases e with
 |v u=>cases dst<;>rfl
 |s d' g' cs=>exact if_neg (fun h=>hs d' g' cs rfl h.1.symm)
 |n cs r=>cases dst with
  |none=>rfl
  |some d'=>exact if_neg (fun h=>hn cs r rfl (by rw[h.1]))
theorem St.ext' {s t:St} (h1 : ∀x,s.tmp x=t.tmp x) (h2 : ∀d g,s.obj d g=t.obj d g) (h3 : ∀d,s.gen d=t.gen d):s=t:=by
 cases s;cases t;simp only[St.mk.injEq];exact⟨funext h1,funext fun d=>funext fun g=>h2 d g,funext h3⟩
def Eff.ob (dst:Option Nat):Eff->Option Nat
 | .v _=>none
 | .s d _ _=>some d
 | .n _ _=>dst
theorem app_ob {e:Eff} {st:St} {dst:Option Nat} {d g:Nat} (h:e.ob dst≠some d):(e.app dst st).obj d g=st.obj d g:=by
 refine app_obj (fun d' g' cs he hd=>h ?_) (fun cs r he hd=>h ?_)
 ·rw[he,hd];rfl
 ·rw[he,hd];rfl
theorem app_same {e:Eff} {st st2:St} {dst:Option Nat} (hg : ∀d,dst=some d->st2.gen d=st.gen d) :
  ((∀t,dst=some t->(∀d g cs,e ≠ .s d g cs)->(e.app dst st2).tmp t=(e.app dst st).tmp t))/\(∀ (d g:Nat),e.ob dst=some d->st2.obj d g=st.obj d g->(e.app dst st2).obj d g=(e.app dst st).obj d g)/\(∀d,dst=some d->(e.app dst st2).gen d=(e.app dst st).gen d):=by
 cases e with
 |v u=>
  refine⟨fun t ht _ => ?_,⟨fun d g h _=>(by cases h),fun d hd => ?_⟩⟩
  ·subst ht;simp[Eff.app,St.putO,St.put]
  ·subst hd;exact hg d rfl
 |s d' g' cs=>
  refine⟨fun t _ h=>(h _ _ _ rfl).elim,fun d g h ho => ?_,fun d hd => ?_⟩
  ·simp only[Eff.app,St.set];split
   ·rfl
   ·exact ho
  ·exact hg d hd
 |n cs r=>
  cases dst with
  |none=>exact⟨fun _ h=>(by cases h),fun _ _ h=>(by simp[Eff.ob]at h),fun _ h=>(by cases h)⟩
  |some x=>
   have:=hg x rfl;refine⟨fun t ht _ => ?_,fun d g h ho => ?_,fun d hd => ?_⟩
   ·cases ht;simp[Eff.app,St.new,this]
   ·simp only[Eff.app,St.new,this,ho]
   ·cases hd;simp only[Eff.app,St.new,this]
theorem app_comm {ex ey:Eff} {st:St} {x y:Option Nat} (hd : ∀d,x=some d->y≠some d) (hob : ∀d,ex.ob x=some d->ey.ob y≠some d) (hsx : ∀d g cs,ex = .s d g cs->x=none) (hsy : ∀d g cs,ey = .s d g cs->y=none) :
  ex.app x (ey.app y st)=ey.app y (ex.app x st):=by
 have hd' : ∀d,y=some d->x≠some d:=fun d h e=>hd d e h
 obtain⟨x1,x2,x3⟩:=app_same (e:=ex) (st:=st) (st2:=ey.app y st) (dst:=x) (fun d h=>app_gen (hd d h));obtain⟨y1,y2,y3⟩:=app_same (e:=ey) (st:=st) (st2:=ex.app x st) (dst:=y) (fun d h=>app_gen (hd' d h));refine St.ext' (fun t => ?_) (fun d g => ?_) (fun d => ?_)
 ·by_cases hx:x=some t
  ·have hy:y≠some t:=hd t hx;rw[x1 t hx (fun d g cs e=>by rw[hsx d g cs e]at hx;cases hx)];exact(app_tmp fun d h e=>hy (by rw[h,e])).symm
  ·rw[app_tmp (e:=ex) (fun d h e=>hx (by rw[h,e]))];by_cases hy:y=some t
   ·exact(y1 t hy (fun d g cs e=>by rw[hsy d g cs e]at hy;cases hy)).symm
   ·rw[app_tmp (e:=ey) (fun d h e=>hy (by rw[h,e])),app_tmp (e:=ey) (fun d h e=>hy (by rw[h,e])),app_tmp (e:=ex) (fun d h e=>hx (by rw[h,e]))]
 ·by_cases hx:ex.ob x=some d
  ·have hy:=hob d hx;rw[x2 d g hx (app_ob hy),app_ob hy]
  ·rw[app_ob hx];by_cases hy:ey.ob y=some d
   ·exact(y2 d g hy (app_ob hx)).symm
   ·rw[app_ob hy,app_ob hy,app_ob hx]
 ·by_cases hx:x=some d
  ·rw[x3 d hx,app_gen (hd d hx)]
  ·rw[app_gen hx];by_cases hy:y=some d
   ·exact(y3 d hy).symm
   ·rw[app_gen hy,app_gen hy,app_gen hx]
theorem not_noW {ops:Array Oper} {x:Oper} (hx:x∈ops.toList) (hw:isW x.op=true) : ¬noW ops=true:=by
 intro h;have:=zJ.1 h x hx;rw[hw]at this;cases this
theorem wW {x:Oper} {A B:Prop} (h:(isStore x.op=true/\A)\/(isAlloc x.op=true/\B)):isW x.op=true:=by
 unfold isW;rcases h with h|h<;>simp[h.1]
theorem swap {ops:Array Oper} {x y:Oper} (hx0:x∈ops.toList) (hy0:y∈ops.toList) (hi:indep ops x y=true) {st s1 s2:St} (hx:stepO P call mu true ops x st=some s1) (hy:stepO P call mu true ops y s1=some s2) :
  ∃s,stepO P call mu true ops y st=some s/\stepO P call mu true ops x s=some s2:=by
 obtain⟨hhx,hhy,p1,p2,p3⟩:=indep_parts hi;have p3':calm y.op x.op=true\/(calmAll ops=false/\apart y.op x.op=true):=by
  rcases p3 with h|h
  ·left;rw[calm_symm];exact h
  ·right;exact⟨h.1,apart_symm h.2⟩
 obtain⟨ex,rx,rfl,sx,nx,lx,cx⟩:=stepO_eff hhx hx;obtain⟨ey,ry,rfl,sy,ny,ly,cy⟩:=stepO_eff hhy hy
 -- what an effect writes, in the words of 'far'
 have wx : ∀d,ex.ob x.dst=some d->(isStore x.op=true/\lkv ops x.op (some d)=true)\/(isAlloc x.op=true/\x.dst=some d):=by
  intro d h;cases ex with
  |v u=>cases h
  |s d' g cs=>cases h;obtain⟨a1,a2,_⟩:=sx _ _ _ rfl;exact .inl ⟨a1,((lx d a2).resolve_right (not_noW hx0 (by unfold isW;rw[a1];rfl))).2.2⟩
  |n cs r=>exact .inr ⟨nx _ _ rfl,h⟩
 have wy : ∀d,ey.ob y.dst=some d->(isStore y.op=true/\lkv ops y.op (some d)=true)\/(isAlloc y.op=true/\y.dst=some d):=by
  intro d h;cases ey with
  |v u=>cases h
  |s d' g cs=>cases h;obtain⟨a1,a2,_⟩:=sy _ _ _ rfl;exact .inl ⟨a1,((ly d a2).resolve_right (not_noW hy0 (by unfold isW;rw[a1];rfl))).2.2⟩
  |n cs r=>exact .inr ⟨ny _ _ rfl,h⟩
 have fxy : ∀d,ry=some d->ex.ob x.dst≠some d:=fun d h e=>far hx0 p3 (fun d hd=>(p1 d hd).1) ((ly d h).resolve_right (not_noW hx0 (wW (wx d e)))) (wx d e) rfl
 have fyx : ∀d,rx=some d->ey.ob y.dst≠some d:=fun d h e=>far hy0 p3' p2 ((lx d h).resolve_right (not_noW hy0 (wW (wy d e)))) (wy d e) rfl
 have hst : ∀t∈readsOf ops y,st.tmp t=(ex.app x.dst st).tmp t:=fun t ht=>(app_tmp fun d hd e=>(p1 d hd).1 (e▸ht)).symm
 refine⟨ey.app y.dst st,cy st hst (fun d g h=>(app_ob (fxy d h)).symm),?_⟩;rw[cx (ey.app y.dst st) (fun t ht=>app_tmp fun d hd e=>p2 d hd (e▸ht)) (fun d g h=>app_ob (fyx d h))];refine congrArg some (app_comm (fun d hd=>(p1 d hd).2) (fun d h e => ?_) (fun d g cs e=>(sx d g cs e).2.2) (fun d g cs e=>(sy d g cs e).2.2))
 -- both write one object's number
 cases ex with
 |v u=>cases h
 |s d' g cs=>cases h;exact fyx d (sx _ _ _ rfl).2.1 e
 |n cs r=>
  cases ey with
  |v u=>cases e
  |s d' g cs=>cases e;exact fxy d (sy _ _ _ rfl).2.1 h
  |n cs' r'=>exact(p1 d h).2 e
def execI (P:Program) (call:Callf) (mu:FuncId->Bool) (ops:Array Oper):List Nat->St->Option St
 | [],st=>some st
 |i::r,st=>match ops[i]? with
  |some o=>match stepO P call mu true ops o st with
   |some s=>execI P call mu ops r s
   |none=>none
  |none=>none
theorem execI_cons {ops:Array Oper} {i:Nat} {r:List Nat} {st s':St} (h:execI P call mu ops (i::r) st=some s') : ∃o s,ops[i]?=some o/\stepO P call mu true ops o st=some s/\execI P call mu ops r s=some s':=by
 unfold execI at h;split at h
 ·rename_i o ho;split at h
  ·rename_i s hs;exact⟨o,s,ho,hs,h⟩
  ·cases h
 ·cases h
theorem execI_of {ops:Array Oper} {i:Nat} {r:List Nat} {st s s':St} {o:Oper} (ho:ops[i]?=some o) (hs:stepO P call mu true ops o st=some s) (h:execI P call mu ops r s=some s'):execI P call mu ops (i::r) st=some s':=by
 unfold execI;simp only[ho,hs];exact h
theorem mem_ops {ops:Array Oper} {i:Nat} {o:Oper} (h:ops[i]?=some o):o∈ops.toList:=List.mem_of_getElem? (i:=i) (by simpa using h)
theorem to_front {ops:Array Oper} {i:Nat} {o:Oper} (hi:ops[i]?=some o) : ∀ {xs ys:List Nat} {st s':St},(∀x∈xs,∀p,ops[x]?=some p->indep ops p o=true) ->
  execI P call mu ops (xs++i::ys) st=some s' -> ∃s,stepO P call mu true ops o st=some s/\execI P call mu ops (xs++ys) s=some s'
 | [],ys,st,s',_,h=>by
  obtain⟨o',s,ho,hs,hr⟩:=execI_cons h;rw[hi]at ho;cases ho;exact⟨s,hs,hr⟩
 |x::xs,ys,st,s',hind,h=>by
  obtain⟨p,s1,hp,hs1,hr⟩:=execI_cons h;obtain⟨s2,hs2,hr2⟩:=to_front hi (fun y hy=>hind y (yb _ hy)) hr;obtain⟨s,hs,hs'⟩:=swap (mem_ops hp) (mem_ops hi) (hind x yW p hp) hs1 hs2;exact⟨s,hs,execI_of hp hs' hr2⟩
theorem execI_range {ops:Array Oper} : ∀ {l:List Oper} {k:Nat} {st s:St},ops.toList.drop k=l->execOps P call mu true ops l st=some s->execI P call mu ops (List.range' k l.length) st=some s
 | [],k,st,s,_,h=>by unfold execOps at h;cases h;rfl
 |o::r,k,st,s,hd,h=>by
  unfold execOps at h;cases e:stepO P call mu true ops o st with
  |none=>rw[e]at h;cases h
  |some s1=>
   rw[e]at h;have ho:ops[k]?=some o:=by
    have:(ops.toList.drop k)[0]?=some o:=by rw[hd];rfl
    rw[ye]at this;simpa using this
   rw[yS,List.range'_succ];refine execI_of ho e (execI_range ?_ h);rw[<- List.drop_drop,hd];rfl
end
section
variable {P:Program} {w0 w:World} {F I:Nat->Prop} {Z:Nat->Nat} {N:Nat} {β:Nat->Nat->Nat} {st:St} {a:Act}
theorem seq_wpOps {call:Callf} (hcall:CallOk P call) {mu:FuncId->Bool} {soft:Bool} {ops:Array Oper} (hd : ∀o∈ops.toList,∀d,o.dst=some d->d<N) {Q:Exit->Act->World->Prop} {st':St} (hQ : ∀a' w',To w0 F I Z N st' a' w'->Q .normal a' w') :
  ∀ {l:List Oper} {k:Nat} {st:St} {a:Act} {w:World},ops.toList.drop k=l->execOps P call mu soft ops l st=some st'->To w0 F I Z N st a w->wpOps P ops Q (List.range' k l.length) a w
 | [],k,st,a,w,_,h,hr=>by unfold execOps at h;cases h;exact hQ _ _ hr
 |o::r,k,st,a,w,hdr,h,hr=>by
  unfold execOps at h;cases e:stepO P call mu soft ops o st with
  |none=>rw[e]at h;cases h
  |some s1=>
   rw[e]at h;obtain⟨β,hr⟩:=hr;have ho:ops[k]?=some o:=by
    have:(ops.toList.drop k)[0]?=some o:=by rw[hdr];rfl
    rw[ye]at this;simpa using this
   rw[yS,List.range'_succ,wpOps_cons];refine stepO_wpOp hr hcall ho (fun d e=>hd o ?_ d e) e (fun a' w' hto=>seq_wpOps hcall hd hQ ?_ h hto) Q
   ·exact List.mem_of_getElem? (i:=k) (by simpa using ho)
   ·rw[<- List.drop_drop,hdr];rfl
def Closed (ops:Array Oper) (listed:Array Bool):Prop := ∀i o,ops[i]?=some o->listed.getD i false=true -> ∀e∈o.after,Region.binds .any e=true->listed.getD e.on false=true
theorem force_eq {α:Type} (n:Nat) (f:Nat->α):force n f=f n:=by cases n<;>rfl
def Beh (ops:Array Oper) (j i:Nat):Prop := ∀listed,Closed ops listed -> ∀y,ops[j]?=some y->(∀e∈y.after,Region.binds .any e=true->listed.getD e.on false=true)->listed.getD i false=true
def GoodRows (ops:Array Oper) (rows:List Nat):Prop := ∀j,j<rows.length -> ∀i,(rows.getD (rows.length-1-j) 0).testBit i=true->Beh ops j i
theorem rowOf_ok {ops:Array Oper} {rows:List Nat} (hg:GoodRows ops rows) {listed:Array Bool} (hc:Closed ops listed) (hl:rows.length<=ops.size) : ∀ {l:List Edge} {i:Nat},(∀e∈l,Region.binds .any e=true->listed.getD e.on false=true) ->
  (rowOf rows l).testBit i=true->listed.getD i false=true
 | [],i,_,h=>by simp[rowOf]at h
 |e::r,i,hd,h=>by
  unfold rowOf at h;have ih := @rowOf_ok ops rows hg listed hc hl r i (fun e he=>hd e (yb _ he));split at h
  ·rename_i hb;simp only[xh,decide_eq_true_eq]at hb;have hon:=hd e yW hb.1;simp only[Nat.testBit_or,Bool.or_eq_true,Nat.testBit_two_pow,decide_eq_true_eq]at h;rcases h with rfl|h|h
   ·exact hon
   ·obtain⟨o,ho⟩ : ∃o,ops[e.on]?=some o:=⟨_,zE (by omega)⟩
    exact hg e.on hb.2 i h listed hc o ho (fun e' he' hb'=>hc e.on o ho hon e' he' hb')
   ·exact ih h
  ·exact ih h
theorem rowsOf_ok {ops:Array Oper} : ∀ {l:List Oper} {rows:List Nat},ops.toList.drop rows.length=l->rows.length<=ops.size->GoodRows ops rows->GoodRows ops (rowsOf l rows)/\(rowsOf l rows).length=rows.length+l.length
 | [],rows,_,_,hg=>⟨hg,rfl⟩
 |o::r,rows,hd,hl,hg=>by
  unfold rowsOf;rw[force_eq];have ho:ops[rows.length]?=some o:=by
   have:(ops.toList.drop rows.length)[0]?=some o:=by rw[hd];rfl
   rw[ye]at this;simpa using this
  have hlt:=(Array.getElem?_eq_some_iff.1 ho).1;obtain⟨h1,h2⟩ := @rowsOf_ok ops r (rowOf rows o.after.toList::rows) (by rw[yS,<- List.drop_drop,hd];rfl) (by simp;omega) (by
   intro j hj i hb;rw[yS]at hj hb;rcases xi j rows.length with hj'|hj'
   ·refine hg j hj' i ?_;rw[show rows.length+1-1-j=(rows.length-1-j)+1 by omega,List.getD_cons_succ]at hb;exact hb
   ·have:j=rows.length:=by omega
    subst this;rw[show rows.length+1-1-rows.length=0 by omega,List.getD_cons_zero]at hb;intro listed hc y hy hdep;rw[ho]at hy;cases hy;exact rowOf_ok hg hc hl (fun e he=>hdep e (Array.mem_toList_iff.1 he)) hb)
  refine⟨h1,?_⟩;rw[h2];simp;omega
theorem okRows_at {ops:Array Oper} : ∀ {rows:List Nat} {j:Nat},okRows ops rows=true->j<rows.length->okRow ops j (rows.getD (rows.length-1-j) 0)=true
 |m::r,j,h,hj=>by
  unfold okRows okRowsP at h;simp only[xh]at h;rw[yS]at hj ⊢;rcases xi j r.length with hj'|hj'
  ·rw[show r.length+1-1-j=(r.length-1-j)+1 by omega,List.getD_cons_succ];exact okRows_at h.2 hj'
  ·have:j=r.length:=by omega
   subst this;rw[show r.length+1-1-r.length=0 by omega,List.getD_cons_zero];exact h.1
theorem draw_parts {ops:Array Oper} (h:okDraw ops=true) {j:Nat} {y:Oper} (hy:ops[j]?=some y):(∀e∈y.after,Region.binds .any e=true->e.on<j) /\ ∀i,i<j -> ∀x,ops[i]?=some x->Beh ops j i\/indep ops x y=true:=by
 unfold okDraw at h;have hj:j<ops.size:=(Array.getElem?_eq_some_iff.1 hy).1;obtain⟨hg,hlen⟩:=rowsOf_ok (ops:=ops) (l:=ops.toList) (rows:=[]) rfl (zj _) (fun j hj=>absurd hj (Nat.not_lt_zero j));have hjl:j<(rowsOf ops.toList []).length:=by rw[hlen];simpa using hj
 have:=okRows_at h hjl;unfold okRow okRowP at this;rw[hy]at this;simp only[xh]at this;obtain⟨h1,h2⟩:=this;refine⟨fun e he hb => ?_,fun i hi x hx => ?_⟩
 ·rw[Array.all_eq_true']at h1;have:=h1 e he;rw[hb]at this;simpa using this
 ·rw[zJ]at h2;have:=h2 i (zX.2 hi);rw[hx]at this;simp only[Bool.or_eq_true]at this;rcases this with h|h
  ·left;exact hg j hjl i h
  ·exact .inr h
theorem mem_ready {ops:Array Oper} {listed:Array Bool} {i:Nat} (h:i∈Region.ready .any ops listed):i<ops.size/\listed.getD i true=false /\ ∀o,ops[i]?=some o -> ∀e∈o.after,Region.binds .any e=true->listed.getD e.on false=true:=by
 unfold Region.ready at h;rw[List.mem_filter]at h;obtain⟨h1,h2⟩:=h;have hlt:=zX.1 h1;simp only[xh,Bool.not_eq_true']at h2;refine⟨hlt,h2.1,fun o ho e he hb => ?_⟩;have h3:=h2.2;rw[ho]at h3;simp only[yp,wz]at h3;rw[Array.all_eq_true']at h3;have:=h3 e he;rw[hb]at this;simpa using this
theorem any_wp {call:Callf} (hcall:CallOk P call) {mu:FuncId->Bool} {ops:Array Oper} (hd : ∀o∈ops.toList,∀d,o.dst=some d->d<N) (hok:okDraw ops=true) {Q:Exit->Act->World->Prop} {st':St} (hQ : ∀a' w',To w0 F I Z N st' a' w'->Q .normal a' w') :
  ∀ {rest:List Nat} {listed:Array Bool} {st:St} {a:Act} {w:World},Closed ops listed->listed.size=ops.size->rest.Pairwise (· < ·)->(∀i,i∈rest↔i<ops.size/\listed.getD i true=false)->execI P call mu ops rest st=some st'->To w0 F I Z N st a w ->
  wpAny P .any ops Q rest.length listed a w:=by
 intro rest;generalize hn:rest.length=n;induction n generalizing rest with
 |zero=>
  intro listed st a w _ hsz _ hmem hex hr;have h0:rest=[]:=wR hn;subst h0;cases hex;refine⟨?_,hQ _ _ hr⟩;cases hrd:Region.ready .any ops listed with
  |nil=>rfl
  |cons i r=>
   obtain⟨h1,h2,_⟩:=mem_ready (i:=i) (by rw[hrd];exact yW);have:=(hmem i).2 ⟨h1,h2⟩;simp at this
 |succ n ih=>
  intro listed st a w hcl hsz hsort hmem hex hr;refine⟨fun hrd => ?_,fun i hi => ?_⟩
  ·exfalso;cases rest with
   |nil=>simp at hn
   |cons j r=>
    obtain⟨hj1,hj2⟩:=(hmem j).1 yW;have:j∈Region.ready .any ops listed:=by
     unfold Region.ready;refine List.mem_filter.2 ⟨zX.2 hj1,?_⟩;have ho:ops[j]?=some ops[j]:=zE hj1;simp only[xh,Bool.not_eq_true'];refine⟨hj2,?_⟩;rw[ho];simp only[yp,wz];rw[Array.all_eq_true'];intro e he;cases hb:Region.binds .any e with
     |false=>rfl
     |true=>
      simp only[xL,Bool.false_or];have hlt:=(draw_parts hok ho).1 e he hb;cases hx:listed.getD e.on false with
      |true=>rfl
      |false=>
       exfalso;have hel:e.on<listed.size:=by omega
       have hx':listed.getD e.on true=false:=by
        rw[xR,zE hel]at hx ⊢;exact hx
       have:=(hmem e.on).2 ⟨by omega,hx'⟩;rcases List.mem_cons.1 this with h|h
       ·omega
       ·have:=List.rel_of_pairwise_cons hsort h;omega
    rw[hrd]at this;simp at this
  ·obtain⟨h1,h2,h3⟩:=mem_ready hi;have him:=(hmem i).2 ⟨h1,h2⟩;have ho:ops[i]?=some ops[i]:=zE h1;obtain⟨xs,ys,hsplit⟩:=List.append_of_mem him;have hsort':=hsort;rw[hsplit,List.pairwise_append]at hsort';obtain⟨sx,sy,sxy⟩:=hsort';have hlt : ∀x∈xs,x<i:=fun x hx=>sxy x hx i yW
   have hind : ∀x∈xs,∀p,ops[x]?=some p->indep ops p ops[i]=true:=by
    intro x hx p hp;rcases (draw_parts hok ho).2 x (hlt x hx) p hp with hb|hb
    ·exfalso;have hl:=hb listed hcl _ ho (h3 _ ho);have hxm:=((hmem x).1 (by rw[hsplit];exact wH _ hx)).2;have hel:x<listed.size:=by
      have:=((hmem x).1 (by rw[hsplit];exact wH _ hx)).1;omega
     rw[xR,zE hel]at hl hxm;simp only[wz]at hl hxm;rw[hl]at hxm;cases hxm
    ·exact hb
   rw[hsplit]at hex;obtain⟨s,hs,hrest⟩:=to_front ho hind hex;obtain⟨β,hr⟩:=hr;refine stepO_wpOp hr hcall ho (fun d e=>hd ops[i] (by simp) d e) hs (fun a' w' hto => ?_) Q;refine ih (rest:=xs++ys) ?_ ?_ (by simp[hsz]) ?_ (fun k => ?_) hrest hto;rotate_left
   ·intro j o hj hlj e he hb;have up : ∀k,listed.getD k false=true->(listed.setIfInBounds i true).getD k false=true:=by
     intro k hk;rw[xR]at hk ⊢;by_cases hki:k=i
     ·subst hki;rw[zN (by omega)];rfl
     ·rw[zV (fun e=>hki e.symm)];exact hk
    by_cases hji:j=i
    ·subst hji;exact up _ (h3 o hj e he hb)
    ·refine up _ (hcl j o hj ?_ e he hb);rw[xR]at hlj ⊢;rw[zV (fun e=>hji e.symm)]at hlj;exact hlj
   rotate_right
   ·rw[hsplit]at hn;simp only[yG,yS]at hn ⊢;omega
   ·rw[List.pairwise_append];exact⟨sx,(List.pairwise_cons.1 sy).2,fun x hx y hy=>sxy x hx y (yb _ hy)⟩
   ·have hk:=hmem k;rw[hsplit]at hk;have hnx:i∉xs:=fun h=>Nat.lt_irrefl _ (hlt i h)
    have hny:i∉ys:=fun h=>Nat.lt_irrefl _ ((List.pairwise_cons.1 sy).1 i h)
    by_cases hki:k=i
    ·subst hki;constructor
     ·intro h;rcases List.mem_append.1 h with h|h
      ·exact(hnx h).elim
      ·exact(hny h).elim
     ·rintro⟨_,h⟩
      exfalso;rw[xR,zN (by omega)]at h;cases h
    ·rw[xR,zV (fun e=>hki e.symm),<- xR,<- hk];simp only[List.mem_append,List.mem_cons,hki,false_or]
end
end Go.Ev
namespace Go.Ev
def CallLe (c c':Callf):Prop := ∀f a r,c f a=some r->c' f a=some r
theorem CallLe.refl (c:Callf):CallLe c c:=fun _ _ _ h=>h
theorem CallLe.trans {a b c:Callf} (h:CallLe a b) (k:CallLe b c):CallLe a c:=fun _ _ _ x=>k _ _ _ (h _ _ _ x)
section
variable {good:FuncId->Bool} {P:Program} {c c':Callf} {mu:FuncId->Bool}
theorem afterCall_mono {soft:Bool} {dst:Option Nat} {st s:St} {g:FuncId} {ars:List Arg} (hc:CallLe c c')
  (h:afterCall soft dst st (c g ars)=some s):afterCall soft dst st (c' g ars)=some s:=by
 cases e:c g ars with
 |none=>simp[e,afterCall]at h
 |some r=>rw[hc _ _ _ e,<- e];exact h
theorem roCall_mono (hc:CallLe c c') {dst:Option Nat} {g:FuncId} {caps:List SV} {vs:List TV} {st s:St}
  (h:roCall c mu dst g caps vs st=some s):roCall c' mu dst g caps vs st=some s:=by
 unfold roCall at h ⊢;split at h
 ·split at h
  ·split at h
   ·rename_i hm;rw[if_pos hm];split at h
    ·rename_i e;rw[hc _ _ _ e];exact h
    ·cases h
   ·cases h
  ·cases h
 ·cases h
theorem acall_mono (hc:CallLe c c') {soft:Bool} {dst:Option Nat} {f:Operand} {args:List Operand} {st s:St}
  (h:acall c mu soft dst f args st=some s):acall c' mu soft dst f args st=some s:=by
 unfold acall at h ⊢;split at h
 ·split at h
  ·exact afterCall_mono hc h
  ·split at h
   ·rename_i hs;rw[if_pos hs];exact roCall_mono hc h
   ·rename_i hs;rw[if_neg hs];split at h
    ·rename_i hm;rw[if_pos hm];split at h
     ·rename_i hd;rw[if_pos hd];split at h
      ·split at h
       ·rename_i e;rw[hc _ _ _ e];exact h
       ·cases h
      ·cases h
     ·cases h
    ·rename_i hm;rw[if_neg hm];split at h
     ·split at h
      ·exact afterCall_mono hc h
      ·cases h
     ·cases h
 ·cases h
theorem step_mono (hc:CallLe c c') {soft:Bool} {dst:Option Nat} {op:Op} {st s:St}
  (h:step P c mu soft dst op st=some s):step P c' mu soft dst op st=some s:=by
 unfold step at h ⊢;split at h<;>first|exact acall_mono hc h|exact h
theorem stepS_mono (hc:CallLe c c') {soft:Bool} {ops:Array Oper} {dst:Option Nat} {op:Op} {st s:St}
  (h:stepS P c mu soft ops dst op st=some s):stepS P c' mu soft ops dst op st=some s:=by
 unfold stepS at h ⊢;split at h
 ·cases h
 ·rename_i hn;rw[if_neg hn];exact step_mono hc h
theorem stepO_mono (hc:CallLe c c') {soft:Bool} {ops:Array Oper} {o:Oper} {st s:St}
  (h:stepO P c mu soft ops o st=some s):stepO P c' mu soft ops o st=some s:=by
 unfold stepO at h ⊢;split at h
 ·exact stepS_mono hc h
 ·split at h
  ·split at h
   ·split at h
    ·rename_i hb;rw[if_pos hb];exact stepS_mono hc h
    ·rename_i hb;rw[if_neg hb];exact h
   ·exact h
   ·cases h
  ·cases h
theorem execOps_mono (hc:CallLe c c') {soft:Bool} {ops:Array Oper} : ∀ {l:List Oper} {st s:St},
  execOps P c mu soft ops l st=some s->execOps P c' mu soft ops l st=some s
 | [],_,_,h=>h
 |o::r,st,s,h=>by
  unfold execOps at h ⊢;cases e:stepO P c mu soft ops o st with
  |none=>rw[e]at h;cases h
  |some st' =>
   rw[e]at h;rw[stepO_mono hc e];exact execOps_mono hc h
theorem jumps_mono {f g:Code->St->Option (Ex×St)} (hfg : ∀k s r,f k s=some r->g k s=some r) {c:Code} : ∀ {n m:Nat},n<=m -> ∀ {x:Option (Ex×St)} {r:Ex×St},jumps f c n x=some r->jumps g c m x=some r:=by
 intro n;induction n with
 |zero=>intro m _ x r h;simp[jumps]at h
 |succ n ih=>
  intro m hm x r h;obtain⟨m,rfl⟩ : ∃m',m=m'+1:=⟨m-1,by omega⟩
  unfold jumps at h ⊢;split at h
  ·rename_i l s;split at h
   ·rename_i rest hl;cases e:f rest s with
    |none=>rw[e]at h;cases n<;>simp[jumps]at h
    |some y=>rw[e]at h;rw[hfg _ _ _ e];exact ih (by omega) h
   ·exact h
  ·exact h
theorem exec_mono (hc:CallLe c c') : ∀ {n m:Nat} {k:Code} {st:St} {r:Ex×St},n<=m ->
  exec P c mu n k st=some r->exec P c' mu m k st=some r:=by
 intro n;induction n with
 |zero=>intro m k st r _ h;simp[exec]at h
 |succ n ih=>
  intro m k st r hm h;obtain⟨m,rfl⟩ : ∃m',m=m'+1:=⟨m-1,by omega⟩
  have hm':n<=m:=by omega
  cases k with
  |skip=>exact h
  |region id ops draw=>
   unfold exec at h ⊢;dsimp only at h ⊢;cases e0:preFrz P draw ops st with
   |none=>rw[e0]at h;cases h
   |some st0=>
    rw[e0]at h;dsimp only at h ⊢;cases e:execOps P c mu draw ops ops.toList st0 with
    |none=>rw[e]at h;cases h
    |some st'=>rw[e]at h;rw[execOps_mono hc e];exact h
  |seq a b=>
   unfold exec at h ⊢;dsimp only at h ⊢;cases e:exec P c mu n a st with
   |none=>rw[e]at h;cases h
   |some x=>
    rw[e]at h;rw[ih hm' e];obtain⟨x,st'⟩:=x;cases x with
    |normal=>exact ih hm' h
    |exit i=>exact h
    |ret=>exact h
    |goto l=>exact h
  |cond x t e=>
   unfold exec at h ⊢;dsimp only at h ⊢;split at h
   ·exact ih hm' h
   ·cases h
  |block id b=>
   unfold exec at h ⊢;dsimp only at h ⊢;cases e:exec P c mu n b st with
   |none=>rw[e]at h;cases h
   |some x=>rw[e]at h;rw[ih hm' e];exact h
  |loop b=>
   unfold exec at h ⊢;dsimp only at h ⊢;cases e:exec P c mu n b st with
   |none=>rw[e]at h;cases h
   |some x=>
    rw[e]at h;rw[ih hm' e];obtain⟨x,st'⟩:=x;cases x with
    |normal=>exact ih hm' h
    |exit i=>exact h
    |ret=>exact h
    |goto l=>exact h
  |rangeFunc f p a b=>exact h
  |exit id=>exact h
  |scope b=>
   unfold exec at h ⊢;dsimp only at h ⊢;cases e:exec P c mu n b st with
   |none=>rw[e]at h;cases n<;>simp[jumps]at h
   |some x=>
    rw[e]at h;rw[ih hm' e];exact jumps_mono (fun k s r hr=>ih hm' hr) hm' h
  |label l=>exact h
  |goto l=>exact h
  |ret=>exact h
  |refuse w=>exact h
theorem callN_le (X:Callf) : ∀n,CallLe (callN P X mu good n) (callN P X mu good (n+1))
 |0=>fun f a r h=>by simp[callN]at h
 |n+1=>fun f a r h=>by
  have ih:=callN_le X n;unfold callN at h ⊢;split at h
  ·exact h
  ·split at h
   ·split at h
    ·rename_i hok;rw[if_pos hok];split at h
     ·split at h
      ·rename_i hl;rw[if_pos hl];split at h
       ·rename_i e;rw[exec_mono ih (yg n) e];exact h
       ·rename_i e;rw[exec_mono ih (yg n) e];exact h
       ·cases h
      ·cases h
     ·cases h
    ·cases h
   ·cases h
theorem callN_mono (X:Callf) {n m:Nat} (h:n<=m):CallLe (callN P X mu good n) (callN P X mu good m):=by
 induction h with
 |refl=>exact CallLe.refl _
 |step _ ih=>exact ih.trans (callN_le X _)
end
end Go.Ev
namespace Go.Ev
open Go.RowKit
def Ex.cv:Ex->Exit
 | .normal => .normal
 | .exit i => .exit i
 | .ret => .ret
 | .goto l => .goto l
def SW (P:Program) (c:Code) (Q:Exit->Act->World->Prop):Nat->Exit->Act->World->Prop
 |0,_,_,_=>False
 |k+1,e,a,w=>match e with
  | .goto l=>match findLabel c l with
   |some rest=>rest.wp P (SW P c Q k) a w
   |none=>Q (.goto l) a w
  |e=>Q e a w
theorem wp_scope_n {P:Program} {c:Code} {Q:Exit->Act->World->Prop} (n:Nat) {a:Act} {w:World} (h:c.wp P (SW P c Q n) a w):(Code.scope c).wp P Q a w:=by
 intro b k cs;have key : ∀n (b':Code) a w,b'.wp P (SW P c Q n) a w -> ∃e a' w',Q e a' w'/\Arrives P (lone (b.at a (.code b' :: .inScope c::k)) cs w) b k cs e a' w':=by
  intro n;induction n with
  |zero=>intro b' a w h;obtain⟨e,a₁,w₁,hq,_⟩:=h b (.inScope c::k) cs;exact hq.elim
  |succ n ih=>
   intro b' a w h;obtain⟨e,a₁,w₁,hq,harr⟩:=h b (.inScope c::k) cs;cases e with
   |normal=>exact⟨.normal,a₁,w₁,hq,Steps.trans harr (.one step_inScope)⟩
   |exit id=>exact⟨.exit id,a₁,w₁,hq,fun k' hk=>harr k' (by simp[exitTo,hk])⟩
   |goto l=>
    have hq:(match findLabel c l with|some rest=>rest.wp P (SW P c Q n) a₁ w₁|none=>Q (.goto l) a₁ w₁):=hq;cases hl:findLabel c l with
    |some rest=>
     rw[hl]at hq;obtain⟨e₂,a₂,w₂,hq₂,harr₂⟩:=ih rest a₁ w₁ hq;exact⟨e₂,a₂,w₂,hq₂,.of_steps (harr _ (by simp[gotoIn,hl])) harr₂⟩
    |none=>
     rw[hl]at hq;exact⟨.goto l,a₁,w₁,hq,fun k' hk=>harr k' (by simp[gotoIn,hl,hk])⟩
   |ret=>exact⟨_,a₁,w₁,hq,harr⟩
   |panic ch=>exact⟨_,a₁,w₁,hq,harr⟩
   |outgrown=>exact⟨_,a₁,w₁,hq,harr⟩
 obtain⟨e,a',w',hq,harr⟩:=key n c a w h;exact⟨e,a',w',hq,.of_steps (.one step_scope) harr⟩
theorem ok_label {N:Nat} : ∀ {c:Code} {l:Nat} {rest:Code},okCode N c=true->findLabel c l=some rest->okCode N rest=true:=by
 intro c;induction c with
 |seq a b iha ihb=>
  intro l rest hok h;unfold okCode at hok;simp only[xh]at hok;unfold findLabel at h;split at h
  ·rename_i r hr;cases h;unfold okCode;simp only[xh];exact⟨iha hok.1 hr,hok.2⟩
  ·exact ihb hok.2 h
 |label l' =>
  intro l rest hok h;unfold findLabel at h;split at h
  ·cases h;rfl
  ·cases h
 |_=>intro l rest hok h;simp[findLabel]at h
section
variable {P:Program} {w0 w:World} {F I:Nat->Prop} {Z:Nat->Nat} {N:Nat} {β:Nat->Nat->Nat} {st:St} {a:Act}
theorem region_wp {call:Callf} (hcall:CallOk P call) (hm:P.follows .mixedOrders=true) {mu:FuncId->Bool} {id:Nat} {ops:Array Oper} {draw:Bool} (hok:okCode N (.region id ops draw)=true) {st':St} (hr:To w0 F I Z N st a w)
  (he:execOps P call mu draw ops ops.toList st=some st') {Q:Exit->Act->World->Prop} (hQ : ∀a' w',To w0 F I Z N st' a' w'->Q .normal a' w'):(Code.region id ops draw).wp P Q a w:=by
 unfold okCode at hok;simp only[xh]at hok;obtain⟨h1,h2⟩:=hok;have hd : ∀o∈ops.toList,∀d,o.dst=some d->d<N:=by
  intro o ho d hdst;rw[Array.all_eq_true']at h1;have:=h1 o (Array.mem_toList_iff.1 ho);rw[hdst]at this;simpa using this
 cases draw with
 |false=>
  refine wp_region ?_;have:=seq_wpOps (F:=F) (I:=I) (w0:=w0) hcall hd hQ (l:=ops.toList) (k:=0) rfl he hr;rw[List.range_eq_range'];simpa using this
 |true=>
  have hok:okDraw ops=true:=by simpa using h2
  refine wp_region_any hm ?_;obtain⟨β,hr⟩:=hr;have hr':To w0 F I Z N st a { w with drawn:=w.drawn+1 }:=⟨β,hr.world rfl rfl rfl rfl⟩
  have hex:=execI_range (l:=ops.toList) (k:=0) rfl he;have hl:ops.toList.length=ops.size:=we;rw[hl]at hex;have:=any_wp (F:=F) (I:=I) (w0:=w0) hcall hd hok hQ (rest:=List.range' 0 ops.size) (listed:=Array.replicate ops.size false) (fun j o hj hl=>by
   rw[xR,Array.getElem?_replicate]at hl;split at hl<;>cases hl) (by simp) (List.pairwise_lt_range') (fun i=>by
   rw[List.mem_range'_1];constructor
   ·rintro⟨_,h⟩
    refine⟨by omega,?_⟩;rw[xR,Array.getElem?_replicate,if_pos (by omega)];rfl
   ·rintro⟨h,_⟩
    omega) hex hr'
  rw[List.length_range']at this;exact this
theorem exec_wp {call:Callf} (hcall:CallOk P call) (hm:P.follows .mixedOrders=true) {mu:FuncId->Bool} : ∀ (n:Nat) {c:Code} {st:St} {a:Act} {w:World} {e:Ex} {st':St} {Q:Exit->Act->World->Prop},okCode N c=true->To w0 F I Z N st a w ->
  exec P call mu n c st=some (e,st')->(∀a' w',To w0 F I Z N st' a' w'->Q e.cv a' w')->c.wp P Q a w:=by
 intro n;induction n with
 |zero=>intro c st a w e st' Q _ _ h;simp[exec]at h
 |succ n ih=>
  intro c st a w e st' Q hok hr h hQ;cases c with
  |skip=>simp only[exec,Option.some.injEq,Prod.mk.injEq]at h;obtain⟨rfl,rfl⟩:=h;exact wp_skip (hQ _ _ hr)
  |region id ops draw=>
   unfold exec at h;simp only at h;split at h
   ·rename_i s0 hs0;have hr0:To w0 F I Z N s0 a w:=by
     unfold preFrz at hs0;split at hs0
     ·obtain⟨β,hb⟩:=hr;exact⟨β,hb.frzAll hs0⟩
     ·cases hs0;exact hr
    split at h
    ·rename_i s hs;cases h;exact region_wp hcall hm hok hr0 hs hQ
    ·cases h
   ·cases h
  |seq x y=>
   unfold okCode at hok;simp only[xh]at hok;unfold exec at h;simp only at h;split at h
   ·rename_i s hs;exact wp_seq (ih hok.1 hr hs fun a' w' hr'=>ih hok.2 hr' h hQ)
   ·rename_i hne;refine wp_seq (ih hok.1 hr h fun a' w' hr' => ?_);have hq:=hQ a' w' hr';cases e with
    |normal=>exact(hne _ h).elim
    |exit i=>exact hq
    |ret=>exact hq
    |goto l=>exact hq
  |cond x t f=>
   unfold okCode at hok;simp only[xh]at hok;unfold exec at h;simp only at h;split at h
   ·rename_i b hb;obtain⟨β,hrel⟩:=hr;have hv:=hrel.eval x;rw[hb]at hv;refine wp_cond (rep_bool hv) ?_;cases b with
    |true=>exact ih hok.1 ⟨β,hrel⟩ h hQ
    |false=>exact ih hok.2 ⟨β,hrel⟩ h hQ
   ·cases h
  |block id b=>
   unfold exec at h;simp only at h;refine wp_block ?_;split at h
   ·rename_i i s hs;refine ih hok hr hs fun a' w' hr' => ?_
    show if i=id then Q .normal a' w' else Q (.exit i) a' w'
    split at h
    ·rename_i hi;cases h;rw[if_pos hi];exact hQ a' w' hr'
    ·rename_i hi;cases h;rw[if_neg hi];exact hQ a' w' hr'
   ·rename_i hne;refine ih hok hr h fun a' w' hr' => ?_
    have hq:=hQ a' w' hr';cases e with
    |normal=>exact hq
    |exit i=>exact(hne _ _ h).elim
    |ret=>exact hq
    |goto l=>exact hq
  |loop b=>
   have key : ∀ (m:Nat),m<=n+1 -> ∀ {st:St} {a:Act} {w:World},To w0 F I Z N st a w->exec P call mu m (.loop b) st=some (e,st')->Code.rounds P b Q m a w:=by
    intro m;induction m with
    |zero=>intro _ st a w _ h;simp[exec]at h
    |succ m ihm=>
     intro hle st a w hr h;rw[rounds_succ];unfold exec at h;simp only at h;split at h
     ·rename_i s hs;have hs':=exec_mono (CallLe.refl call) (show m<=n by omega) hs;exact ih hok hr hs' fun a' w' hr'=>ihm (by omega) hr' h
     ·rename_i hne;have h':=exec_mono (CallLe.refl call) (show m<=n by omega) h;refine ih hok hr h' fun a' w' hr' => ?_
      have hq:=hQ a' w' hr';cases e with
      |normal=>exact(hne _ h).elim
      |exit i=>exact hq
      |ret=>exact hq
      |goto l=>exact hq
   exact wp_loop_rounds (n+1) (key (n+1) (xQ _) hr h)
  |rangeFunc f p x y=>simp[exec]at h
  |exit id=>simp only[exec,Option.some.injEq,Prod.mk.injEq]at h;obtain⟨rfl,rfl⟩:=h;exact wp_exit (hQ _ _ hr)
  |scope b=>
   have h:jumps (exec P call mu n) b n (exec P call mu n b st)=some (e,st'):=h;have hb:okCode N b=true:=hok;have key : ∀ (k:Nat) {b':Code} {s:St} {a:Act} {w:World},okCode N b'=true->To w0 F I Z N s a w->jumps (exec P call mu n) b k (exec P call mu n b' s)=some (e,st')->b'.wp P (SW P b Q k) a w:=by
    intro k;induction k with
    |zero=>intro b' s a w _ _ h;simp[jumps]at h
    |succ k ihk=>
     intro b' s a w hok' hr h;cases hx:exec P call mu n b' s with
     |none=>rw[hx]at h;simp[jumps]at h
     |some x=>
      obtain⟨x,s1⟩:=x;rw[hx]at h;refine ih hok' hr hx fun a' w' hr' => ?_
      cases x with
      |goto l=>
       show (match findLabel b l with|some rest=>rest.wp P (SW P b Q k) a' w'|none=>Q (.goto l) a' w');unfold jumps at h;dsimp only at h;cases hl:findLabel b l with
       |some rest=>
        rw[hl]at h;exact ihk (ok_label hb hl) hr' h
       |none=>
        rw[hl]at h;cases h;exact hQ a' w' hr'
      |normal=>cases h;exact hQ a' w' hr'
      |exit i=>cases h;exact hQ a' w' hr'
      |ret=>cases h;exact hQ a' w' hr'
   exact wp_scope_n n (key n hb hr h)
  |label l=>simp only[exec,Option.some.injEq,Prod.mk.injEq]at h;obtain⟨rfl,rfl⟩:=h;exact wp_label (hQ _ _ hr)
  |goto l=>simp only[exec,Option.some.injEq,Prod.mk.injEq]at h;obtain⟨rfl,rfl⟩:=h;exact wp_goto (hQ _ _ hr)
  |ret=>simp only[exec,Option.some.injEq,Prod.mk.injEq]at h;obtain⟨rfl,rfl⟩:=h;exact wp_ret (hQ _ _ hr)
  |refuse why=>simp[exec]at h
end
end Go.Ev
namespace Go.Ev
open Go.RowKit
noncomputable def resF (tmps:Array Value):ResultVar->Sem Value
 | .tmp t=>pure (tmps.getD t undef)
 | .cell a t=>do loadVar t (<- asAddr (tmps.getD a undef))
theorem results_list {P:Program} {w:World} {fn:Func} {tmps:Array Value} {vs:List Value} (h:(fn.results.toList.mapM (resF tmps)).run P w = .ok vs w) :
  (results fn tmps).run P w = .ok (if h:vs.toArray.size=1 then vs.toArray[0] else .tuple vs.toArray) w:=by
 unfold results;have e:(fn.results.mapM fun r=>match r with
  | .tmp t=>pure (tmps.getD t undef)
  | .cell a t=>do loadVar t (<- asAddr (tmps.getD a undef)):Sem (Array Value))=List.toArray <$> fn.results.toList.mapM (resF tmps):=by
  rw[Array.mapM_eq_mapM_toList];congr 1
 simp only[Sem.run_bind,Sem.run_pure];erw [e]
 simp only[Sem.run_map,h,Result.andThen_ok]
section
variable {P:Program} {w0 w:World} {F I:Nat->Prop} {Z:Nat->Nat} {N:Nat} {β:Nat->Nat->Nat} {st:St} {a:Act}
theorem rep_sub {v:Value} {s:SV} (hr:Rep w (Mut F β st) v s):Rep w F v s:=
 Rep.mono (w:=w) (fun _ _ _=>rfl) (fun _ _ hf => .inl hf) hr
theorem Rel.res (h:Rel w0 F I Z N β st a w) {r:ResultVar} {t:TV} (hr:resTV P st r=some t) : ∃v,(resF a.tmps r).run P w = .ok v w/\RepT β w (Mut F β st) v t:=by
 cases r with
 |tmp u=>
  simp only[resTV,Option.some.injEq]at hr;subst hr;exact⟨_,rfl,h.tmps u⟩
 |cell x t=>
  unfold resTV at hr;simp only at hr;split at hr
  ·rename_i sh d g off hsh htmp;split at hr
   ·rename_i cs hcs;cases hl:loadC sh (cs.drop off) with
    |none=>rw[hl]at hr;cases hr
    |some s=>
     rw[hl]at hr;cases hr;have hv:=h.tmps x;rw[htmp]at hv;obtain⟨us,ty,hb,hall⟩:=h.objs d g cs hcs;obtain⟨v,hv',hrep⟩:=load_sound (P:=P) (w:=w) (M:=Mut F β st) (a:=⟨β d g,off,none⟩) hsh (cells:=cs.drop off) (s:=s) (fun i y hi=>by
      rw[ye]at hi;obtain⟨_,u,hu,hru⟩:=hall _ y hi;refine⟨u,?_,hru⟩;rw[add_mk];simp[World.cell?,hb,hu]) hl
     refine⟨v,?_,hrep⟩;have hv2:a.tmps.getD x undef = .pointer (some ⟨β d g,off,none⟩):=hv;simp[resF,hv2,asAddr,hv']
   ·cases hr
  ·cases hr
theorem Rel.out (h:Rel w0 F I Z N β st a w) {v:Value} {t:TV} {s:SV} (hr:RepT β w (Mut F β st) v t) (ho:outSV st t=some s):Rep w F v s:=by
 unfold outSV at ho;split at ho
 ·cases ho;exact rep_sub hr
 ·cases ho;rw[show v = .slice none 0 0 from hr];exact .sl0 _ _ _ (xQ _)
 ·rename_i d g size off n;split at ho
  ·rename_i hd;split at ho
   ·rename_i cs hcs;cases ho;obtain⟨cap,us0,ty0,rfl,hn,hb0,hsz⟩:=hr;obtain⟨us,ty,hb,hall⟩:=h.objs d g cs hcs;have hown:=(h.own d g (by rw[hcs];rfl)).1 hd;have hget : ∀i y,((cs.drop off).take (n*size))[i]?=some y->cs[off+i]?=some y:=by
     intro i y hi;rcases xi i (n*size) with hlt|hge
     ·rw[yk hlt,ye]at hi;exact hi
     ·rw[xl (by simp;omega)]at hi;cases hi
    refine .sl _ _ _ hn _ (fun i=>us.getD (off+i) undef) (fun hf=>absurd (h.old _ hf) (by simpa using hown)) (fun i y hi => ?_) (fun i y hi => ?_)
    ·obtain⟨_,u,hu,_⟩:=hall _ y (hget i y hi);rw[add_mk];simp[World.cell?,hb,hu]
    ·obtain⟨_,u,hu,hru⟩:=hall _ y (hget i y hi);have e:us.getD (off+i) undef=u:=by rw[xR,hu];rfl
     show Rep w F (us.getD (off+i) undef) y;rw[e];exact rep_sub hru
   ·cases ho
  ·cases ho
 ·cases ho
theorem Rel.resl (h:Rel w0 F I Z N β st a w) : ∀ {rs:List ResultVar} {l:List SV},resSVs P st rs=some l ->
  ∃vs,(rs.mapM (resF a.tmps)).run P w = .ok vs w/\vs.length=rs.length/\l.length=rs.length /\ ∀ (i:Nat) s,l[i]?=some s -> ∃v,vs[i]?=some v/\Rep w F v s:=by
 intro rs;induction rs with
 |nil=>intro l hl;cases hl;exact⟨[],rfl,rfl,rfl,fun i s hi=>by simp at hi⟩
 |cons r rs ih=>
  intro l hl;unfold resSVs at hl;split at hl
  ·rename_i t l' ht hl';split at hl
   ·rename_i s hs;cases hl;obtain⟨vs,h1,h2,h3,h4⟩:=ih hl';obtain⟨v,hv,hrep⟩:=h.res ht;refine⟨v::vs,?_,by simp[h2],by simp[h3],fun i y hi => ?_⟩
    ·simp[List.mapM_cons,hv,h1]
    ·cases i with
     |zero=>simp only[yK,Option.some.injEq]at hi ⊢;subst hi;exact⟨v,rfl,h.out hrep hs⟩
     |succ i=>simp only[yQ]at hi ⊢;exact h4 i y hi
   ·cases hl
  ·cases hl
theorem Rel.rowRet (h:Rel w0 F I Z N β st a w) {fn:Func} {r:Ret} (hr:retRow P st fn.results.toList=some r) : ∃v,(results fn a.tmps).run P w = .ok v w/\RetRep w0 w F v r:=by
 unfold retRow at hr;split at hr
 ·rename_i rv hrs;split at hr
  ·rename_i d g size off n ht;split at hr
   ·rename_i hd;cases hcs:st.obj d g with
    |none=>rw[hcs]at hr;cases hr
    |some cs=>
     rw[hcs]at hr;cases hr;obtain⟨v,hv,cap,us',ty',h1,h2,h3,h4⟩:=h.res ht;obtain⟨us,ty,hb,hall⟩:=h.objs d g cs hcs;refine⟨v,results_list (vs:=[v]) (by rw[hrs];simp[hv]),β d g,cap,us',ty',h1,h2,h3,h4,(h.own d g (by rw[hcs];rfl)).1 hd,us,ty,hb,fun i s hi => ?_⟩;obtain⟨h1,u,hu,hru⟩:=hall i s hi;refine⟨h1,u,hu,Rep.mono (w:=w) (fun _ _ _=>rfl) (fun b _ hm => ?_) hru⟩;rcases hm with hm|rfl
     ·exact .inl hm
     ·exact .inr ⟨d,g,by rw[hcs];rfl,rfl⟩
   ·cases hr
  ·cases hr
 ·cases hr
theorem Rel.ret (h:Rel w0 F I Z N β st a w) {fn:Func} {r:Ret} (hr:retOf P st fn.results.toList=some r) : ∃v,(results fn a.tmps).run P w = .ok v w/\RetRep w0 w F v r:=by
 unfold retOf at hr;split at hr
 ·rename_i rv hrs;have one : ∀ {t:TV},resTV P st rv=some t -> ∃v,(results fn a.tmps).run P w = .ok v w/\RepT β w (Mut F β st) v t:=by
   intro t ht;obtain⟨v,hv,hrep⟩:=h.res ht;exact⟨v,results_list (vs:=[v]) (by rw[hrs];simp[hv]),hrep⟩
  split at hr
  ·rename_i d g ht;split at hr
   ·rename_i hd;cases hcs:st.obj d g with
    |none=>rw[hcs]at hr;cases hr
    |some cs=>
     rw[hcs]at hr;cases hr;obtain⟨v,hv,hrep⟩:=one ht;obtain⟨us,ty,hb,hall⟩:=h.objs d g cs hcs;refine⟨v,hv,β d g,hrep,(h.own d g (by rw[hcs];rfl)).1 hd,us,ty,hb,fun i s hi => ?_⟩;obtain⟨h1,u,hu,hru⟩:=hall i s hi;refine⟨h1,u,hu,Rep.mono (w:=w) (fun _ _ _=>rfl) (fun b _ hm => ?_) hru⟩;rcases hm with hm|rfl
     ·exact .inl hm
     ·exact .inr ⟨d,g,by rw[hcs];rfl,rfl⟩
   ·cases hr
  ·rename_i t ht hn;cases ho:outSV st t with
   |none=>rw[ho]at hr;cases hr
   |some s=>
    rw[ho]at hr;cases hr;obtain⟨v,hv,hrep⟩:=one hn;exact⟨v,hv,h.out hrep ho⟩
  ·cases hr
 ·rename_i hne;cases hl:resSVs P st fn.results.toList with
  |none=>rw[hl]at hr;cases hr
  |some l=>
   rw[hl]at hr;cases hr;obtain⟨vs,h1,h2,h3,h4⟩:=h.resl hl;have hne1:vs.length≠1:=by
    intro e;rw[h2]at e;match hrs:fn.results.toList,e with
    | [x],_=>exact hne x hrs
   refine⟨.tuple vs.toArray,?_,?_⟩
   ·rw[results_list h1,dif_neg (by simpa using hne1)]
   ·refine .tup _ _ (by simp;omega) fun i s hi => ?_
    obtain⟨v,hv,hrep⟩:=h4 i s hi;have e:vs.toArray.getD i undef=v:=by rw[xR,wQ,hv];rfl
    rw[e];exact hrep
end
theorem holds_sub {w:World} {M M':Nat->Prop} {b:Nat} {cs:List SV} (hM : ∀x,M' x->M x) (h:Holds w M b cs):Holds w M' b cs:=by
 obtain⟨us,ty,hb,hall⟩:=h;refine⟨us,ty,hb,fun i s hi => ?_⟩;obtain⟨h1,v,hv,hr⟩:=hall i s hi;exact⟨h1,v,hv,Rep.mono (w:=w) (fun _ _ _=>rfl) (fun b _ hm=>hM b hm) hr⟩
theorem entry {w:World} {F:Nat->Prop} {B:Nat->Nat} {vals:Array Value} {args:List Arg} {N:Nat} (hN:N<=N0) (hle:args.length<=N) (hF : ∀b,F b->b<w.heap.size) (hsz:vals.size=args.length)
  (hrep : ∀ (i:Nat) (x:Arg),args[i]?=some x->ArgRep w F (vals.getD i undef) (B i) x)
  (hinj : ∀ (i j:Nat) (x y:Arg),args[i]?=some x->args[j]?=some y->isImp x=true->isImp y=true->B i=B j->i=j) :
  Rel w F (impB args B) B N (fun d _=>B (d-N0)) (argSt args) { tmps:=vals++Array.replicate (N-vals.size) undef,defers:=[] } w:=by
 have hobj : ∀d g cs,(argSt args).obj d g=some cs->N0<=d/\g=0 /\ ∃x,args[d-N0]?=some x/\isImp x=true/\Holds w F (B (d-N0)) cs:=by
  intro d g cs h;simp only[argSt]at h;split at h
  ·rename_i hd;refine⟨hd.1,hd.2,?_⟩;split at h
   ·rename_i cs' hx;cases h;exact⟨_,hx,rfl,(hrep _ _ hx).2.2⟩
   ·rename_i cs' _ _ _ hx;cases h;exact⟨_,hx,rfl,(hrep _ _ hx).2.2⟩
   ·cases h
  ·cases h
 have hobj' : ∀d g,((argSt args).obj d g).isSome=true->N0<=d/\g=0 /\ ∃x,args[d-N0]?=some x/\isImp x=true/\F (B (d-N0)):=by
  intro d g h;obtain⟨cs,hcs⟩:=wt.1 h;obtain⟨h1,h2,x,hx,hi,_⟩:=hobj d g cs hcs;refine⟨h1,h2,x,hx,hi,?_⟩;have:=hrep _ _ hx;cases x with
  |sv s=>simp[isImp]at hi
  |imp cs=>exact this.2.1
  |impref cs size off n=>exact this.2.1
 have hmut : ∀b,Mut F (fun d _=>B (d-N0)) (argSt args) b->F b:=by
  rintro b (h|⟨d,g,h1,rfl⟩)
  ·exact h
  ·obtain⟨_,_,_,_,_,h⟩:=hobj' d g h1;exact h
 exact {
  defers:=rfl
  size:=by simp;omega
  tmps:=fun t=>by
   simp only[argSt];have hlt : ∀x,args[t]?=some x->(vals++Array.replicate (N-vals.size) undef).getD t undef=vals.getD t undef:=by
    intro x hx;have:t<vals.size:=by
     rw[hsz];rcases xi t args.length with h|h
     ·exact h
     ·rw[xl h]at hx;cases hx
    rw[xR,xR,zW this]
   split
   ·rename_i s hx;rw[hlt _ hx];exact Rep.mono (w:=w) (fun _ _ _=>rfl) (fun b _ hm=>hmut b hm) (hrep _ _ hx)
   ·rename_i cs hx;rw[hlt _ hx];show _=Value.pointer (some ⟨B (N0+t-N0),0,none⟩);rw[(hrep _ _ hx).1,show N0+t-N0=t by omega]
   ·rename_i cs size off n hx;rw[hlt _ hx];obtain⟨⟨cap,us,ty,h1,h2,h3,h4⟩,_⟩:=hrep _ _ hx;have e:N0+t-N0=t:=by omega
    exact⟨cap,us,ty,by simp only[e];exact h1,h2,by simp only[e];exact h3,h4⟩
   ·trivial
  ids:=fun t d g h=>by
   simp only[argSt]at h ⊢;split at h<;>simp only[TV.id,Option.some.injEq,Prod.mk.injEq,reduceCtorEq]at h
   all_goals
    obtain⟨rfl,rfl⟩:=h;rw[if_pos (by omega)];omega
  objs:=fun d g cs h=>by
   obtain⟨_,_,x,_,_,us,ty,hb,hall⟩:=hobj d g cs h;refine⟨us,ty,hb,fun i s hi => ?_⟩;obtain⟨h1,v,hv,hr⟩:=hall i s hi;exact⟨h1,v,hv,Rep.mono (w:=w) (fun _ _ _=>rfl) (fun b _ hm=>hmut b hm) hr⟩
  own:=fun d g h=>by
   obtain⟨h1,h2,x,hx,hi,_⟩:=hobj' d g h;exact⟨fun hlt=>by omega,fun _=>⟨_,x,hx,hi,rfl⟩⟩
  room:=hN
  inj:=fun d1 g1 d2 g2 h1 h2 e=>by
   obtain⟨a1,b1,x,hx,hi,_⟩:=hobj' d1 g1 h1;obtain⟨a2,b2,y,hy,hj,_⟩:=hobj' d2 g2 h2;have:=hinj _ _ x y hx hy hi hj e;exact⟨by omega,by rw[b1,b2]⟩
  gens:=fun d g h=>by
   obtain⟨h1,h2,_⟩:=hobj' d g h;simp only[argSt,h2];rw[if_pos h1];omega
  ext:=Ext.refl _ _
  old:=hF
  imps:=by
   rintro b ⟨i,x,hx,hi,rfl⟩
   have:=hrep _ _ hx;cases x with
   |sv s=>simp[isImp]at hi
   |imp cs=>exact this.2.1
   |impref cs size off n=>exact this.2.1
  pin:=fun _ _ _=>rfl }
theorem enters_of {P : Program} {g : FuncId} {fn : Func} (hf : P.funcs[g]? = some fn) (hn : (fn.name != "runtime.NumGoroutine") = true) {c : Code} (hb : fn.body = some c) : Enters P g := by
 intro args w;have : ¬ fn.name = "runtime.NumGoroutine" := by simpa [bne] using hn
 simp[callFunc,hf,this,hb]
def Good (P:Program) (good:FuncId->Bool):Prop := ∀f fn,good f=true->P.funcs[f]?=some fn->okFn P fn=true
theorem callN_ok {P:Program} {X:Callf} (hX:CallOk P X) {good:FuncId->Bool} (hgood:Good P good) (mu:FuncId->Bool) : ∀n,CallOk P (callN P X mu good n):=by
 intro n;induction n with
 |zero=>intro g args r exps h;simp[callN]at h
 |succ n ih=>
  intro g args r exps h;unfold callN at h;split at h
  ·rename_i x hx;cases h;exact hX g args r exps hx
  ·split at h
   ·rename_i fn hf;split at h
    ·rename_i hg;have hok:=hgood _ _ hg hf;split at h
     ·rename_i c hb;split at h
      ·rename_i hle;simp only[okFn,xh,hb,decide_eq_true_eq]at hok;obtain⟨⟨⟨hm,hn⟩,hN⟩,hc⟩:=hok;refine fun w F B vals hF hsz hrep hinj => .inl ⟨enters_of hf hn hb,?_⟩
       have hent:=entry hN hle hF hsz hrep hinj;refine calls_of_wp hf hb ?_;have fin : ∀ {st':St},(retOf P st' fn.results.toList).map (fun r=>(r,expOf st' args))=some (r,exps) -> ∀a' w',To w F (impB args B) B fn.ntmps st' a' w' ->
         a'.defers=[] /\ ∃v,(results fn a'.tmps).run P w' = .ok v w'/\((fun e w' => ∃v,e = .returned v/\RetRep w w' F v r/\Ext (impB args B) w w' /\ ∀ (i:Nat) (cs:List SV),exps[i]?=some (some cs)->Holds w' F (B i) cs):Ending->World->Prop) (.returned v) w':=by
        intro st' he a' w' ⟨β,hr⟩;cases hret:retOf P st' fn.results.toList with
        |none=>rw[hret]at he;cases he
        |some r' =>
         rw[hret]at he;cases he;obtain⟨v,hv,hrr⟩:=hr.ret hret;refine⟨hr.defers,v,hv,v,rfl,hrr,hr.ext,fun i cs hi => ?_⟩;have ho:st'.obj (N0+i) 0=some cs:=by
          unfold expOf at hi;rw[zD]at hi;rcases xi i args.length with hlt|hge
          ·rw[wc hlt]at hi;simp only[yp,Option.some.injEq]at hi;split at hi<;>first|exact hi|cases hi
          ·rw[xl (by simpa using hge)]at hi;cases hi
         have:=hr.holds ho;rw[hr.pin _ _ (by omega),show N0+i-N0=i by omega]at this;exact holds_sub (fun _ hf => .inl hf) this
       split at h
       ·rename_i st' he;refine exec_wp ih hm n hc ⟨_,hent⟩ he fun a' w' hr => ?_
        exact fin h a' w' hr
       ·rename_i st' he;refine exec_wp ih hm n hc ⟨_,hent⟩ he fun a' w' hr => ?_
        exact fin h a' w' hr
       ·cases h
      ·cases h
     ·cases h
    ·cases h
   ·cases h
theorem rowN_ok {P:Program} {X:Callf} (hX:CallOk P X) {good:FuncId->Bool} (hgood:Good P good) {mu:FuncId->Bool} {n:Nat} {g:FuncId} {args:List Arg} {r:Ret} {exps:List (Option (List SV))} (h:rowN P X mu good n g args=some (r,exps)) :
 ∀ (w:World) (F:Nat->Prop) (B:Nat->Nat) (vals:Array Value),(∀b,F b->b<w.heap.size)->vals.size=args.length ->
  (∀ (i:Nat) (x:Arg),args[i]?=some x->ArgRep w F (vals.getD i undef) (B i) x) ->
  (∀ (i j:Nat) (x y:Arg),args[i]?=some x->args[j]?=some y->isImp x=true->isImp y=true->B i=B j->i=j) ->
  Invk P g vals w fun e w' => ∃v,e = .returned v/\RetRep w w' F v r/\Ext (impB args B) w w' /\ ∀ (i:Nat) (cs:List SV),exps[i]?=some (some cs)->Holds w' F (B i) cs:=by
 have ih:=callN_ok hX hgood mu n;unfold rowN at h;split at h
 ·rename_i fn hf;split at h
  ·rename_i hg;have hok:=hgood _ _ hg hf;split at h
   ·rename_i c hb;split at h
    ·rename_i hle;simp only[okFn,xh,hb,decide_eq_true_eq]at hok;obtain⟨⟨⟨hm,hn⟩,hN⟩,hc⟩:=hok;refine fun w F B vals hF hsz hrep hinj => .inl ⟨enters_of hf hn hb,?_⟩
     have hent:=entry hN hle hF hsz hrep hinj;refine calls_of_wp hf hb ?_;have fin : ∀ {st':St},(retRow P st' fn.results.toList).map (fun r=>(r,expOf st' args))=some (r,exps) -> ∀a' w',To w F (impB args B) B fn.ntmps st' a' w' ->
       a'.defers=[] /\ ∃v,(results fn a'.tmps).run P w' = .ok v w'/\((fun e w' => ∃v,e = .returned v/\RetRep w w' F v r/\Ext (impB args B) w w' /\ ∀ (i:Nat) (cs:List SV),exps[i]?=some (some cs)->Holds w' F (B i) cs):Ending->World->Prop) (.returned v) w':=by
      intro st' he a' w' ⟨β,hr⟩;cases hret:retRow P st' fn.results.toList with
      |none=>rw[hret]at he;cases he
      |some r' =>
       rw[hret]at he;cases he;obtain⟨v,hv,hrr⟩:=hr.rowRet hret;refine⟨hr.defers,v,hv,v,rfl,hrr,hr.ext,fun i cs hi => ?_⟩;have ho:st'.obj (N0+i) 0=some cs:=by
        unfold expOf at hi;rw[zD]at hi;rcases xi i args.length with hlt|hge
        ·rw[wc hlt]at hi;simp only[yp,Option.some.injEq]at hi;split at hi<;>first|exact hi|cases hi
        ·rw[xl (by simpa using hge)]at hi;cases hi
       have:=hr.holds ho;rw[hr.pin _ _ (by omega),show N0+i-N0=i by omega]at this;exact holds_sub (fun _ hf => .inl hf) this
     split at h
     ·rename_i st' he;refine exec_wp ih hm n hc ⟨_,hent⟩ he fun a' w' hr => ?_
      exact fin h a' w' hr
     ·rename_i st' he;refine exec_wp ih hm n hc ⟨_,hent⟩ he fun a' w' hr => ?_
      exact fin h a' w' hr
     ·cases h
    ·cases h
   ·cases h
  ·cases h
 ·cases h
theorem callN_calls {P:Program} {X:Callf} (hX:CallOk P X) {good:FuncId->Bool} (hgood:Good P good) {mu:FuncId->Bool} {n:Nat} {f:FuncId} {args:List SV} {s:SV} {exps:List (Option (List SV))} (h:callN P X mu good n f (args.map Arg.sv)=some (.sv s,exps))
  (hE:Enters P f) {w:World} {vals:Array Value} (hsz:vals.size=args.length) (hrep : ∀ (i:Nat) (x:SV),args[i]?=some x->Rep w (fun _=>False) (vals.getD i undef) x) :
  Calls P f vals w fun e w' => ∃v,e = .returned v/\Rep w' (fun _=>False) v s/\Below w.heap.size w w':=by
 have hns : ∀ (i:Nat) (x:Arg),(args.map Arg.sv)[i]?=some x -> ∃y,args[i]?=some y/\x = .sv y:=by
  intro i x hx;rw[zD]at hx;cases hy:args[i]? with
  |none=>rw[hy]at hx;cases hx
  |some y=>rw[hy]at hx;cases hx;exact⟨y,rfl,rfl⟩
 have key:Invk P f vals w fun e w' => ∃v,e = .returned v/\Rep w' (fun _=>False) v s/\Below w.heap.size w w':=by
  refine((callN_ok hX hgood mu n) f _ _ _ h w (fun _=>False) (fun _=>0) vals (fun _ hb=>hb.elim) (by simpa using hsz) (fun i x hx => ?_) (fun i j x y hx hy hi => ?_)).mono ?_
  ·obtain⟨y,hy,rfl⟩:=hns i x hx;exact hrep i y hy
  ·obtain⟨y,hy,rfl⟩:=hns i x hx;simp[isImp]at hi
  ·rintro e w' ⟨v,rfl,hr,he,_⟩
   refine⟨v,rfl,hr,Ext.below (he.mono ?_ ?_)⟩
   ·rintro b ⟨i,x,hx,hi,_⟩
    obtain⟨y,hy,rfl⟩:=hns i x hx;simp[isImp]at hi
   ·intro b hb;exact hb.elim
 rcases key with⟨_,h⟩|⟨v,h,_⟩
 ·exact h
 ·have:=hE vals w;rw[this]at h;cases h
end Go.Ev
namespace Go.Ev
open Go.RowKit
def tiles (P:Program) (total:Nat):Nat->List Field->Bool
 |off,[]=>off==total
 |off,f::r=>f.offset==off&&tiles P total (off+P.cellsOf f.type) r
def plainT (P:Program):Nat->TypeId->Bool
 |0,_=>false
 |n+1,t=>match P.underlying t with
  |some .bool=>true
  |some (.int _)=>true
  |some .string=>true
  |some (.slice e)=>plainT P n e
  |some (.struct fs)=>tiles P (P.cellsOf t) 0 fs.toList&&fs.toList.all fun f=>plainT P n f.type
  |_=>false
def ShpT (P:Program):Nat->TypeId->List SV->Prop
 |0,_,_=>False
 |n+1,t,ss=>match P.underlying t with
  |some .bool => ∃b,ss=[.bool b]
  |some (.int k) => ∃i,ss=[.int k i]/\(Lit.int k i).wf=true
  |some .string => ∃s,ss=[.str s]/\s.size<=maxLen
  |some (.slice e) => ∃elems:List (List SV),ss=[.sl elems.length elems.flatten]/\elems.length<=maxLen /\ ∀x∈elems,ShpT P n e x
  |some (.struct fs) => ∃parts:List (List SV),ss=parts.flatten/\parts.length=fs.toList.length /\ ∀ (j:Nat) (f:Field) (x:List SV),fs.toList[j]?=some f->parts[j]?=some x->ShpT P n f.type x
  |_=>False
theorem list_of {α:Type} {Q:Nat->α->Prop} : ∀n,(∀i,i<n -> ∃x,Q i x) -> ∃l:List α,l.length=n /\ ∀i x,l[i]?=some x->Q i x:=by
 intro n;induction n with
 |zero=>intro _;exact⟨[],rfl,fun i x h=>by simp at h⟩
 |succ n ih=>
  intro h;obtain⟨l,hl,hq⟩:=ih fun i hi=>h i (by omega)
  obtain⟨x,hx⟩:=h n (by omega);refine⟨l++[x],by simp[hl],fun i y hy => ?_⟩;rcases xi i l.length with hi|hi
  ·rw[yf hi]at hy;exact hq i y hy
  ·rw[yj hi]at hy;rcases xo (i-l.length) with h0|h0
   ·rw[h0]at hy;simp at hy;subst hy;have:i=n:=by omega
    subst this;exact hx
   ·rw[xl (by simp;omega)]at hy;cases hy
theorem flatten_len {α:Type} {m:Nat} : ∀ {l:List (List α)},(∀x∈l,x.length=m)->l.flatten.length=l.length*m:=by
 intro l;induction l with
 |nil=>intro _;simp
 |cons a l ih=>
  intro h;rw[List.flatten_cons,yG,ih fun x hx=>h x (yb _ hx),h a yW,yS,Nat.succ_mul,wM]
theorem flatten_get {α:Type} {m:Nat} (hm:0<m) : ∀ {l:List (List α)} {k:Nat} {s:α},(∀x∈l,x.length=m)->l.flatten[k]?=some s -> ∃x,l[k/m]?=some x/\x[k%m]?=some s:=by
 intro l;induction l with
 |nil=>intro k s _ h;simp at h
 |cons a l ih=>
  intro k s h hk;have ha:=h a yW;rw[List.flatten_cons]at hk;rcases xi k m with hlt|hge
  ·rw[yf (by omega)]at hk;exact⟨a,by rw[yn hlt];rfl,by rw[yB hlt];exact hk⟩
  ·rw[yj (by omega),ha]at hk;obtain⟨x,h1,h2⟩:=ih (fun x hx=>h x (yb _ hx)) hk;obtain⟨j,rfl⟩ : ∃j,k=j+m:=⟨k-m,by omega⟩
   rw[wF]at h1 h2;refine⟨x,?_,?_⟩
   ·rw[Nat.add_div_right _ hm];exact h1
   ·rw[Nat.add_mod_right];exact h2
section
variable {H:Type} {enc:TypeId×Value->H} {P:Program} {w:World} {sp:Nat->Bool} {held:Bool}
def Reads (w:World) (cs:List Value) (ss:List SV):Prop:=ss.length=cs.length /\ ∀i s,ss[i]?=some s->Rep w (fun _=>False) (cs.getD i undef) s
theorem reads_one {v:Value} {s:SV} (h:Rep w (fun _=>False) v s):Reads w [v] [s]:=by
 refine⟨rfl,fun i x hx => ?_⟩;match i with
 |0=>simp at hx;subst hx;exact h
 |_+1=>simp at hx
theorem reads_append {a b:List Value} {x y:List SV} (h1:Reads w a x) (h2:Reads w b y):Reads w (a++b) (x++y):=by
 refine⟨by simp[h1.1,h2.1],fun i s hs => ?_⟩;rw[xW];rcases xi i x.length with hi|hi
 ·rw[yf hi]at hs;have:=h1.2 i s hs;rw[xW]at this;rw[yf (by rw[<- h1.1];exact hi)];exact this
 ·rw[yj hi]at hs;have:=h2.2 _ s hs;rw[xW]at this;rw[yj (by rw[<- h1.1];exact hi),<- h1.1];exact this
theorem tiles_reads {n:Nat} {total:Nat} {cs:List Value} (hl:cs.length=total) : ∀ {fs:List Field} {off:Nat},tiles P total off fs=true->off<=total ->
  (∀f∈fs,∃ss,Reads w ((cs.drop f.offset).take (P.cellsOf f.type)) ss/\ShpT P n f.type ss) ->
  ∃parts:List (List SV),Reads w (cs.drop off) parts.flatten/\parts.length=fs.length /\ ∀ (j:Nat) (f:Field) (x:List SV),fs[j]?=some f->parts[j]?=some x->ShpT P n f.type x:=by
 intro fs;induction fs with
 |nil=>
  intro off ht _ _;have:off=total:=by simpa[tiles]using ht
  subst this;refine⟨[],?_,rfl,fun j f x h=>by simp at h⟩;rw[zH (by omega)];exact⟨rfl,fun i s h=>by simp at h⟩
 |cons f fs ih=>
  intro off ht ho hf;unfold tiles at ht;rw[xh]at ht;obtain⟨h1,h2⟩:=ht;have h1:f.offset=off:=by simpa using h1
  obtain⟨ss,hr,hs⟩:=hf f yW;have hle:off+P.cellsOf f.type<=total:=by
   have key : ∀ (fs:List Field) (o:Nat),tiles P total o fs=true->o<=total:=by
    intro fs;induction fs with
    |nil=>intro o h;have:o=total:=(by simpa[tiles]using h);omega
    |cons g gs ihg=>
     intro o h;unfold tiles at h;rw[xh]at h;have:=ihg _ h.2;omega
   exact key _ _ h2
  obtain⟨parts,hp,hpl,hps⟩:=ih h2 hle fun g hg=>hf g (yb _ hg)
  refine⟨ss::parts,?_,by simp[hpl],fun j g x hj hx => ?_⟩
  ·rw[List.flatten_cons];have e:cs.drop off=(cs.drop off).take (P.cellsOf f.type)++cs.drop (off+P.cellsOf f.type):=by
    conv=>lhs;rw[<- zu (P.cellsOf f.type) (cs.drop off),List.drop_drop]
   rw[e];rw[h1]at hr;exact reads_append hr hp
  ·cases j with
   |zero=>simp at hj hx;subst hj hx;exact hs
   |succ j=>simp at hj hx;exact hps j g x hj hx
theorem trod_bool {n:Nat} {t:TypeId} {cs:List Value} {x:DataW H×List MemPlace} (hu:P.underlying t=some .bool) (h:DataW.trod enc P w 0 sp held (n+1) t cs=some x) : ∃b,cs=[.bool b]:=by
 unfold DataW.trod at h;rw[hu]at h;split at h<;>simp_all
theorem trod_intt {n:Nat} {t:TypeId} {k:IntKind} {cs:List Value} {x:DataW H×List MemPlace} (hu:P.underlying t=some (.int k)) (h:DataW.trod enc P w 0 sp held (n+1) t cs=some x) : ∃i,cs=[.int k i]/\(Lit.int k i).wf=true:=by
 unfold DataW.trod at h;rw[hu]at h;split at h<;>simp_all
theorem trod_str {n:Nat} {t:TypeId} {cs:List Value} {x:DataW H×List MemPlace} (hu:P.underlying t=some .string) (h:DataW.trod enc P w 0 sp held (n+1) t cs=some x) : ∃s,cs=[.string s]/\s.size<=maxLen:=by
 unfold DataW.trod at h;rw[hu]at h;split at h<;>simp_all
theorem trod_slc {n:Nat} {t e:TypeId} {cs:List Value} {x:DataW H×List MemPlace} (hu:P.underlying t=some (.slice e)) (h:DataW.trod enc P w 0 sp held (n+1) t cs=some x) :
  cs=[.slice none 0 0] \/ ∃a len cap,cs=[.slice (some a) len cap]/\len<=cap/\cap<=maxLen /\ ∀i,i<len -> ∃ws y,w.cells? 0 (a.add (i*P.cellsOf e)) (P.cellsOf e)=some ws/\DataW.trod enc P w 0 sp held n e ws=some y:=by
 unfold DataW.trod at h;rw[hu]at h;split at h<;>try (simp_all;done)
 right;rename_i e' a len cap he;cases he;refine⟨a,len,cap,rfl,?_⟩;dsimp only at h;split at h
 ·rename_i hc;refine⟨hc.2.1,hc.2.2,fun i hi => ?_⟩;cases hm:(List.range len).mapM fun i=>(w.cells? 0 (a.add (i*P.cellsOf e)) (P.cellsOf e)).bind (DataW.trod enc P w 0 sp held n e) with
  |none=>rw[hm]at h;simp at h
  |some r=>
   have h1:=mapM_some_get hm i i (by simp[hi]);have h2:=mapM_some_length hm;rw[List.length_range]at h2;rw[xX (by omega)]at h1;cases hw:w.cells? 0 (a.add (i*P.cellsOf e)) (P.cellsOf e) with
   |none=>rw[hw]at h1;simp at h1
   |some ws=>
    rw[hw]at h1;exact⟨ws,_,rfl,h1⟩
 ·cases h
theorem trod_strc {n:Nat} {t:TypeId} {fs:Array Field} {cs:List Value} {x:DataW H×List MemPlace} (hu:P.underlying t=some (.struct fs)) (h:DataW.trod enc P w 0 sp held (n+1) t cs=some x) :
  cs.length=P.cellsOf t /\ ∀f∈fs.toList,∃y,DataW.trod enc P w 0 sp held n f.type ((cs.drop f.offset).take (P.cellsOf f.type))=some y:=by
 unfold DataW.trod at h;rw[hu]at h;split at h<;>try (simp_all;done)
 rename_i cs _ cs2 fs' he;cases he;split at h
 ·rename_i hc;refine⟨hc,fun f hf => ?_⟩;cases hm:fs.toList.mapM fun f=>DataW.trod enc P w 0 sp held n f.type ((cs.drop f.offset).take (P.cellsOf f.type)) with
  |none=>rw[hm]at h;simp at h
  |some r=>
   obtain⟨i,hi,he⟩:=List.getElem_of_mem hf;have h1:=mapM_some_get hm i f (by rw[xX hi,he]);have h2:=mapM_some_length hm;rw[xX (by omega)]at h1;exact⟨_,h1⟩
 ·cases h
theorem trod_reads : ∀ {n m:Nat} {t:TypeId} {cs:List Value} {x:DataW H×List MemPlace},plainT P m t=true->DataW.trod enc P w 0 sp held n t cs=some x -> ∃ss,Reads w cs ss/\ShpT P m t ss:=by
 intro n;induction n with
 |zero=>intro m t cs x _ h;simp[DataW.trod]at h
 |succ n ih=>
  intro m t cs x hp h;cases m with
  |zero=>simp[plainT]at hp
  |succ m=>
  unfold plainT at hp;unfold ShpT;split at hp
  ·rename_i hu;obtain⟨b,rfl⟩:=trod_bool hu h;exact⟨[.bool b],reads_one (.bool b),b,rfl⟩
  ·rename_i k hu;obtain⟨i,rfl,hw⟩:=trod_intt hu h;exact⟨[.int k i],reads_one (.int k i),i,rfl,hw⟩
  ·rename_i hu;obtain⟨s,rfl,hw⟩:=trod_str hu h;exact⟨[.str s],reads_one (.str s),s,rfl,hw⟩
  ·rename_i e hu;rcases trod_slc hu h with rfl|⟨a,len,cap,rfl,h1,h2,h3⟩
   ·exact⟨[.sl 0 []],reads_one (.sl0 none 0 0 (xQ 0)),[],rfl,zj _,fun x hx=>by simp at hx⟩
   ·obtain⟨elems,hl,he⟩:=list_of (Q:=fun i ss => ∃ws,w.cells? 0 (a.add (i*P.cellsOf e)) (P.cellsOf e)=some ws/\Reads w ws ss/\ShpT P m e ss) len (fun i hi=>by
     obtain⟨ws,y,hw,ht⟩:=h3 i hi;obtain⟨ss,hr,hs⟩:=ih hp ht;exact⟨ss,ws,hw,hr,hs⟩)
    have hlen : ∀x∈elems,x.length=P.cellsOf e:=by
     intro x hx;obtain⟨i,hi,rfl⟩:=List.getElem_of_mem hx;obtain⟨ws,hw,hr,_⟩:=he i _ (xX hi);rw[hr.1,(World.cells?_some hw).2.1]
    refine⟨[.sl elems.length elems.flatten],reads_one ?_,elems,rfl,by omega,fun x hx => ?_⟩
    ·rw[hl];rcases xo (P.cellsOf e) with h0|h0
     ·have:elems.flatten=[]:=wR (by rw[flatten_len hlen,h0,yX]);rw[this];exact .sl0 _ _ _ h1
     ·have hcell : ∀k s,elems.flatten[k]?=some s -> ∃v,w.cell? (a.add k)=some v/\Rep w (fun _=>False) v s:=by
       intro k s hk;obtain⟨x,hx1,hx2⟩:=flatten_get h0 hlen hk;obtain⟨ws,hw,hr,_⟩:=he _ _ hx1;obtain⟨_,hwl,hwc⟩:=World.cells?_some hw;have hj:=hwc (k%P.cellsOf e) (yI _ h0);rw[add_add,show k/P.cellsOf e*P.cellsOf e+k%P.cellsOf e=k by rw[xV];exact yl k _]at hj;have hrr:=hr.2 _ _ hx2;have hlt:k%P.cellsOf e<ws.length:=by rw[hwl];exact yI _ h0
       rw[xW,xX hlt]at hrr;rw[xX hlt]at hj;exact⟨_,hj,hrr⟩
      refine .sl a len cap h1 _ (fun k=>(w.cell? (a.add k)).getD undef) (fun h=>h) (fun k s hk => ?_) (fun k s hk => ?_)
      ·obtain⟨v,hv,_⟩:=hcell k s hk;rw[hv];rfl
      ·obtain⟨v,hv,hr⟩:=hcell k s hk;rw[hv];exact hr
    ·obtain⟨i,hi,rfl⟩:=List.getElem_of_mem hx;exact(he i _ (xX hi)).choose_spec.2.2
  ·rename_i fs hu;rw[xh]at hp;obtain⟨hcl,hfs⟩:=trod_strc hu h;obtain⟨parts,hr,hpl,hps⟩:=tiles_reads (w:=w) (n:=m) hcl hp.1 (zj _) (fun f hf=>by
    obtain⟨y,hy⟩:=hfs f hf;exact ih ((zJ.1 hp.2) f hf) hy)
   exact⟨parts.flatten,hr,parts,rfl,hpl,hps⟩
  ·cases hp
end
end Go.Ev
namespace Go.Proofs.YtfknkoeagjonbaaGreat
open Go.RowKit Go.WideShapes Go.ChangeShapes
section
variable {H:Type} {enc:TypeId×Value->H} {P:Program}
theorem post_of_below {f:Func} {s:ChangeSpec} {apart fresh handsOn again:Bool} {W W':World} {args:Array Value} {v:Value} {ds gs:List (DataW H)} {before pa pv:List MemPlace}
  (hW:DataW.Whole enc P f.params.toList s.vars apart W args.toList ds gs before)
  (hres : ∀ (b:Nat) (sp:Nat->Bool) (hd:Bool),DataW.TrodAll enc P W' b sp hd f.resultTypes.toList (v.resultList f.resultTypes.size) (s.fn H (ds++gs)).results [])
  (hargs : ∀sp:Nat->Bool,(∀p∈before,sp p.block=true)->DataW.TrodAll enc P W' 0 sp true f.params.toList args.toList (s.fn H (ds++gs)).args pa)
  (hvars : ∀sp:Nat->Bool,(∀p∈before,sp p.block=true)->DataW.TrodVars enc P W' sp s.vars (s.fn H (ds++gs)).vars pv)
  (hps:before=pa++pv) (hb:Below W.heap.size W W')
  (hok : ∀ (j:Nat) (t:TypeId) (r:Value),f.resultTypes[j]?=some t->(v.resultList f.resultTypes.size)[j]?=some r->Value.okWide P W' .any 0 t r) :
  s.post enc P f apart fresh handsOn again W args v W':=by
 have hlt : ∀p∈before,p.block<W.heap.size:=fun p hp=>hW.lt p hp
 have hold : ∀p∈before,(fun b=>decide (b<W.heap.size)) p.block=true:=fun p hp=>by simpa using hlt p hp
 refine⟨ds,gs,before,[],pa,pv,hW,hres _ _ _,hargs _ hold,hvars _ hold,World.keptBut_mono (fun p hp=>⟨hp,?_⟩) (hb.frame (· ∈ before)),fun _ => ?_⟩
 ·rw[hps,List.mem_append]at hp;exact Or.inr hp
 ·obtain⟨_,_,_,_,_,hz,hn⟩:=hW;refine⟨hok,_,_,([]++pa)++pv,⟨[]++pa,pv,trodAll_append (hargs _ (fun _ _=>rfl)) (hres _ _ _),hvars _ (fun _ _=>rfl),rfl,?_,?_⟩,?_⟩
  ·intro b off hp;have hin:MemPlace.cell b off∈before:=by rw[hps];simpa using hp
   rw[hb.frozen (hlt _ hin)];exact hz b off hin
  ·intro ha;have:=hn ha;rw[hps]at this;simpa using this
  ·intro p hp _;rw[hps];simpa using hp
end
end Go.Proofs.YtfknkoeagjonbaaGreat
