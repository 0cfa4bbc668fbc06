/- Part 10 of the proof: the evaluator, contracts of functions and their plain laws (joined by program). No condition. -/
import Derived.Test.YtheclpmgipiejaaGreatDoorPart9
import Derived.Shelf.Strings.Builder1
import Derived.RangeFuncLeaves
import Derived.RangeFuncIn
set_option linter.unusedVariables false
set_option linter.unusedSimpArgs false
set_option maxRecDepth 100000
namespace Go.Ev
open Go.RowKit
section
variable {w w':World} {M M':Nat->Prop}
theorem Rep.turn {C:Nat->Prop} (hc : ∀ (k:Nat) cs ty fz,w.heap[k]?=some (.cells cs ty fz) -> ¬C k->w'.heap[k]?=some (.cells cs ty fz)) (hC : ∀k,C k->M k) (hM : ∀b,b<w.heap.size->M' b->M b) :
  ∀ {v:Value} {s:SV},Rep w M v s->Rep w' M' v s:=by
 have hcell : ∀ (p:Addr) (v:Value),¬M p.block->w.cell? p=some v->w'.cell? p=some v:=by
  intro p v hm hv
  have hlt:p.block<w.heap.size:=World.block_lt_of_cell? w p hv
  unfold World.cell? at hv ⊢
  cases ho:w.heap[p.block]? with
  |none=>rw[ho]at hv;simp at hv
  |some o=>
   rw[ho]at hv
   cases o with
   |cells cs ty fz=>rw[hc _ cs ty fz ho (fun h=>hm (hC _ h))];exact hv
   |_=>simp at hv
 intro v s h
 induction h with
 |bool b=>exact .bool b
 |int k n=>exact .int k n
 |str s=>exact .str s
 |sl0 A n cap h=>exact .sl0 A n cap h
 |sl a n cap h cells c hb hcl _ ih=>
  cases cells with
  |nil=>exact .sl0 _ n cap h
  |cons x l=>
   have hlt:a.block<w.heap.size:=World.block_lt_of_cell? w a (hcl 0 x rfl)
   exact .sl a n cap h _ c (fun hm=>hb (hM _ hlt hm)) (fun i s hi=>hcell _ _ (by rw[block_add];exact hb) (hcl i s hi)) ih
 |agg vs cells hl _ ih=>exact .agg vs cells hl ih
 |tup vs cells hl _ ih=>exact .tup vs cells hl ih
 |mem0 a=>exact .mem0 a
 |mem a cells c hb hcl _ ih=>
  cases cells with
  |nil=>exact .mem0 a
  |cons x l=>
   have hlt:a.block<w.heap.size:=World.block_lt_of_cell? w a (hcl 0 x rfl)
   exact .mem a _ c (fun hm=>hb (hM _ hlt hm)) (fun i s hi=>hcell _ _ (by rw[block_add];exact hb) (hcl i s hi)) ih
 |fn f vs caps hl _ ih=>exact .fn f vs caps hl ih
 |con v h=>exact .con v h
theorem RepT.turn {C:Nat->Prop} {β:Nat->Nat->Nat} (hc : ∀ (k:Nat) cs ty fz,w.heap[k]?=some (.cells cs ty fz) -> ¬C k->w'.heap[k]?=some (.cells cs ty fz)) (hC : ∀k,C k->M k) (hM : ∀b,b<w.heap.size->M' b->M b)
  {v:Value} {t:TV} (hn : ∀d g,t.id=some (d,g) -> ¬C (β d g)) (h:RepT β w M v t):RepT β w' M' v t:=by
 cases t with
 |sv s=>exact Rep.turn hc hC hM h
 |nil=>exact h
 |ptr d g off=>exact h
 |ref d g size off n=>
  obtain⟨cap,cs,ty,hv,hn',hb,hsz⟩:=h
  exact⟨cap,cs,ty,hv,hn',hc _ _ _ _ hb (hn d g rfl),hsz⟩
 |rfc d g size off n c=>
  obtain⟨cs,ty,hv,hn',hb,hsz⟩:=h
  exact⟨cs,ty,hv,hn',hc _ _ _ _ hb (hn d g rfl),hsz⟩
 |pst d g=>exact h
 |undef=>trivial
 |skip=>exact h
end
def ownB (β:Nat->Nat->Nat) (st:St) (k:Nat):Prop := ∃d g,(st.obj d g).isSome=true/\β d g=k
def TV.stands (st:St) (v:TV):Prop := ∀d g,v.id=some (d,g)->(st.obj d g).isSome=true
def Live (G:List (Nat×Value)) (F:Nat->Prop) (L N:Nat) (y:Nat->Value) (st:St) (a:Act) (w:World):Prop := ∃z β,Rel w F (ownB β st) ⟨z,y,True,G⟩ N β st a w /\ ∀k,ownB β st k->L<=k
section
variable {w0 w w':World} {F F' I C:Nat->Prop} {Z:Zy} {N:Nat} {β:Nat->Nat->Nat} {st s:St} {a a':Act} {y:Nat->Value}
theorem live_mk {L:Nat} (h:Rel w0 F I Z N β st a w) (hL:L<=w0.heap.size) (hI : ∀k,I k->L<=k)
  (hc : ∀ (k:Nat) cs ty fz,w.heap[k]?=some (.cells cs ty fz) -> ¬C k->w'.heap[k]?=some (.cells cs ty fz)) (hC : ∀k,C k->Mut F β st k /\ ¬ownB β s k) (hsz:w.heap.size<=w'.heap.size)
  (hF : ∀k,F' k->k<w'.heap.size/\(k<w.heap.size->Mut F β st k /\ ¬ownB β s k))
  (ho : ∀d g cs,s.obj d g=some cs->st.obj d g=some cs) (hg:s.gen=st.gen)
  (hh : ∀d g ts,s.hob d g=some ts->(s.obj d g).isSome=true /\ ∃ts0,st.hob d g=some ts0 /\ ∀ (i:Nat) (t:TV),ts[i]?=some t -> ∃t0,ts0[i]?=some t0/\(t=t0\/t = .undef)/\t.stands s)
  (hd:a'.defers=[]) (hs:a'.tmps.size=N)
  (ht : ∀t,RepT β w (Mut F β st) (a'.tmps.getD t undef) (s.tmp t)/\(s.tmp t).stands s) (hu : ∀t,RepT β w (Mut F β st) (y t) (s.up t)/\(s.up t).stands s):Live Z.gl F' L N y s a' w':=by
 have his : ∀ {d g},(s.obj d g).isSome=true->(st.obj d g).isSome=true:=by
  intro d g h1
  cases e:s.obj d g with
  |none=>rw[e]at h1;cases h1
  |some cs=>rw[ho d g cs e];rfl
 have hM : ∀b,b<w.heap.size->Mut F' β s b->Mut F β st b:=by
  rintro b hb (hf|⟨d,g,h1,h2⟩)
  ·exact((hF b hf).2 hb).1
  ·exact .inr ⟨d,g,his h1,h2⟩
 have hCM : ∀k,C k->Mut F β st k:=fun k hk=>(hC k hk).1
 have hrep : ∀ {v:Value} {x:SV},Rep w (Mut F β st) v x->Rep w' (Mut F' β s) v x:=fun hr=>Rep.turn hc hCM hM hr
 have hT : ∀ {v:Value} {x:TV},RepT β w (Mut F β st) v x->x.stands s->RepT β w' (Mut F' β s) v x:=fun hr hx=>RepT.turn hc hCM hM (fun d g e hk=>(hC _ hk).2 ⟨d,g,hx d g e,rfl⟩) hr
 have hgen : ∀ {x:TV},x.stands s -> ∀d g,x.id=some (d,g)->g<s.gen d:=fun hx d g e=>by rw[hg];exact h.gens d g (his (hx d g e))
 have hblk : ∀ {d g},(s.obj d g).isSome=true -> ∀cs ty,w.heap[β d g]?=some (.cells cs ty (0,0))->w'.heap[β d g]?=some (.cells cs ty (0,0)):=fun h1 cs ty hb=>hc _ _ _ _ hb (fun hk=>(hC _ hk).2 ⟨_,_,h1,rfl⟩)
 have hown : ∀k,ownB β s k->L<=k:=by
  rintro k ⟨d,g,h1,rfl⟩
  obtain⟨o1,o2⟩:=h.own d g (his h1)
  by_cases hd:d<N0\/H0<=d
  ·rcases o1 hd with h2|⟨_,h2⟩
   ·omega
   ·exact hI _ h2
  ·exact hI _ (o2 (by omega) (by omega))
 refine⟨Z.z,β,?_,hown⟩
 exact {
  defers:=hd
  size:=hs
  tmps:=fun t=>hT (ht t).1 (ht t).2
  ids:=fun t d g e=>hgen (ht t).2 d g e
  objs:=fun d g cells hcs=>by
   obtain⟨us,ty,hb,hall⟩:=h.objs d g cells (ho d g cells hcs)
   refine⟨us,ty,hblk (by rw[hcs];rfl) _ _ hb,fun i x hi => ?_⟩
   obtain⟨h1,v,hv,hr⟩:=hall i x hi
   exact⟨h1,v,hv,hrep hr⟩
  own:=fun d g h1=>⟨fun _ => .inr ⟨trivial,d,g,h1,rfl⟩,fun _ _=>⟨d,g,h1,rfl⟩⟩
  room:=h.room
  inj:=fun d g d' g' h1 h2 e=>h.inj d g d' g' (his h1) (his h2) e
  gens:=fun d g h1=>by rw[hg];exact h.gens d g (his h1)
  ext:=Ext.refl _ _
  old:=fun k hk=>(hF k hk).1
  imps:=fun k hk=>⟨.inr trivial,fun _ hf=>by
   obtain⟨d,g,h1,rfl⟩:=hk
   have hlt:β d g<w.heap.size:=by
    cases e:s.obj d g with
    |none=>rw[e]at h1;cases h1
    |some cs=>
     obtain⟨us,ty,hb,_⟩:=h.objs d g cs (ho d g cs e)
     exact lt_of_heap hb
   exact((hF _ hf).2 hlt).2 ⟨d,g,h1,rfl⟩⟩
  pin:=h.pin
  ups:=fun t=>hT (hu t).1 (hu t).2
  uids:=fun t d g e=>hgen (hu t).2 d g e
  glob:=fun g v hg=>hrep (h.glob g v hg)
  hobs:=fun d g ts hts=>by
   obtain⟨h0,ts0,hts0,hall⟩:=hh d g ts hts
   obtain⟨h1,h2,us,ty,hb,hcell⟩:=h.hobs d g ts0 hts0
   have h2':s.obj d g=some []:=by
    cases e:s.obj d g with
    |none=>rw[e]at h0;cases h0
    |some cs=>have:=ho d g cs e;rw[h2]at this;exact this.symm
   refine⟨h1,h2',us,ty,hblk h0 _ _ hb,fun i t hi => ?_⟩
   obtain⟨t0,ht0,hor,hst⟩:=hall i t hi
   obtain⟨v,hv,hv1,hvr,_⟩:=hcell i t0 ht0
   refine⟨v,hv,hv1,?_,fun d' g' e=>hgen hst d' g' e⟩
   rcases hor with rfl|rfl
   ·exact hT hvr hst
   ·trivial }
def TV.cln (st:St) (v:TV):TV:=match v.id with
 |some (d,g)=>if (st.obj d g).isSome then v else .undef
 |none=>v
theorem cln_or (st:St) (v:TV):v.cln st=v\/v.cln st = .undef:=by
 unfold TV.cln
 split
 ·split
  ·exact .inl rfl
  ·exact .inr rfl
 ·exact .inl rfl
theorem cln_stands (st:St) (v:TV):(v.cln st).stands st:=by
 intro d g h
 unfold TV.cln at h
 split at h
 ·rename_i d' g' e
  split at h
  ·rename_i h1
   rw[e]at h
   cases h
   exact h1
  ·cases h
 ·rename_i e
  rw[e]at h
  cases h
theorem cln_rep {w:World} {M:Nat->Prop} {v:Value} {t:TV} (st:St) (h:RepT β w M v t):RepT β w M v (t.cln st):=by
 rcases cln_or st t with e|e
 ·rw[e];exact h
 ·rw[e];trivial
def St.with (st:St) (tm tu:Nat->TV):St:={ st with tmp:=fun t=>(tm t).cln st,up:=fun t=>(tu t).cln st,hob:=fun d g=>(st.hob d g).map fun ts=>ts.map (·.cln st) }
theorem live_with {L:Nat} (h:Rel w0 F I Z N β st a w) (hL:L<=w0.heap.size) (hI : ∀k,I k->L<=k) {s0:St} {tm tu:Nat->TV} {T:Array Value}
  (hc : ∀ (k:Nat) cs ty fz,w.heap[k]?=some (.cells cs ty fz) -> ¬C k->w'.heap[k]?=some (.cells cs ty fz)) (hC : ∀k,C k->Mut F β st k /\ ¬ownB β s0 k) (hsz:w.heap.size<=w'.heap.size)
  (hF : ∀k,F' k->k<w'.heap.size/\(k<w.heap.size->Mut F β st k /\ ¬ownB β s0 k))
  (ho : ∀d g cs,s0.obj d g=some cs->st.obj d g=some cs) (hg:s0.gen=st.gen) (hh : ∀d g ts,s0.hob d g=some ts->(s0.obj d g).isSome=true/\st.hob d g=some ts)
  (hs:T.size=N) (ht : ∀t,RepT β w (Mut F β st) (T.getD t undef) (tm t)) (hu : ∀t,RepT β w (Mut F β st) (y t) (tu t)):Live Z.gl F' L N y (s0.with tm tu) ⟨T,[]⟩ w':=by
 refine live_mk (C:=C) h hL hI hc hC hsz hF ho hg (fun d g ts hts => ?_) rfl hs (fun t=>⟨cln_rep s0 (ht t),cln_stands s0 _⟩) (fun t=>⟨cln_rep s0 (hu t),cln_stands s0 _⟩)
 have hts:(s0.hob d g).map (fun ts=>ts.map (·.cln s0))=some ts:=hts
 obtain⟨ts0,h0,rfl⟩:=map_some hts
 obtain⟨h1,h2⟩:=hh d g ts0 h0
 refine⟨h1,ts0,h2,fun i t hi => ?_⟩
 rw[List.getElem?_map]at hi
 obtain⟨t0,ht0,rfl⟩:=map_some hi
 exact⟨t0,ht0,cln_or s0 t0,cln_stands s0 t0⟩
theorem own_apart (h:Rel w0 F I Z N β st a w) (ho:Z.old) {k:Nat} (hk:F k) : ¬ownB β st k:=by
 rintro⟨d,g,h1,rfl⟩
 have hlt:=h.old _ hk
 obtain⟨o1,o2⟩:=h.own d g h1
 have hnot : ¬I (β d g):=fun hi=>(h.imps _ hi).2 ho hk
 by_cases hd:d<N0\/H0<=d
 ·rcases o1 hd with h2|⟨_,h2⟩
  ·omega
  ·exact hnot h2
 ·exact hnot (o2 (by omega) (by omega))
theorem live_again {L:Nat} (h:Rel w0 F I Z N β st a w) (hL:L<=w0.heap.size) (hI : ∀k,I k->L<=k) (hold:Z.old) {tm tu:Nat->TV} {T:Array Value}
  (hc : ∀ (k:Nat) cs ty fz,w.heap[k]?=some (.cells cs ty fz) -> ¬C k->w'.heap[k]?=some (.cells cs ty fz)) (hC : ∀k,C k->F k) (hsz:w.heap.size<=w'.heap.size)
  (hF : ∀k,F' k->k<w'.heap.size/\(k<w.heap.size->F k))
  (hs:T.size=N) (ht : ∀t,RepT β w (Mut F β st) (T.getD t undef) (tm t)) (hu : ∀t,RepT β w (Mut F β st) (y t) (tu t)):Live Z.gl F' L N y (st.with tm tu) ⟨T,[]⟩ w' :=
 live_with (C:=C) h hL hI hc (fun k hk=>⟨.inl (hC k hk),own_apart h hold (hC k hk)⟩) hsz (fun k hk=>⟨(hF k hk).1,fun hlt=>⟨.inl ((hF k hk).2 hlt),own_apart h hold ((hF k hk).2 hlt)⟩⟩)
  (fun _ _ _ h=>h) rfl (fun d g ts hts=>by
   obtain⟨_,h2,_⟩:=h.hobs d g ts hts
   exact⟨by rw[h2];rfl,hts⟩) hs ht hu
end
section
variable {P:Program} {w0:World} {F I:Nat->Prop} {Z:Zy} {N:Nat}
theorem pre_in {call:Callf} (hcall:CallAll P Z.gl call) {mu:FuncId->Bool} {D:List Deferred} {ro:Option Nat} {n:Nat} {ops:Array Oper} {Q:Exit->Act->World->Prop} (hd : ∀o∈ops.toList,∀d,o.dst=some d->d<N) (hnd : ∀o∈ops,notDefer o.op=true) {st':St} :
  ∀ {m k:Nat} {st:St} {a:Act} {w:World},execOps P call mu false ops ((ops.toList.drop k).take m) st=some st'->k+m<=ops.size->To w0 F I Z N st a w ->
   (∀a' w',To w0 F I Z N st' a' w'->wpOpsIn (fw ro) n P ops Q (List.range' (k+m) (ops.size-(k+m))) (lay D a') w')->wpOpsIn (fw ro) n P ops Q (List.range' k (ops.size-k)) (lay D a) w
 |0,k,st,a,w,he,_,hr,hK=>by
  rw[List.take_zero]at he
  cases he
  exact hK a w hr
 |m+1,k,st,a,w,he,hle,hr,hK=>by
  have hk:k<ops.size:=by omega
  have ho:ops[k]?=some ops[k]:=Array.getElem?_eq_getElem hk
  have hdr:ops.toList.drop k=ops[k]::ops.toList.drop (k+1):=by
   rw[List.drop_eq_getElem_cons (by simpa using hk)]
   simp
  rw[hdr,List.take_succ_cons]at he
  unfold execOps at he
  cases e:stepO P call mu false ops ops[k] st with
  |none=>rw[e]at he;cases he
  |some s1=>
   rw[e]at he
   obtain⟨β,hr⟩:=hr
   rw[show ops.size-k=(ops.size-(k+1))+1 by omega,List.range'_succ,wpOpsIn_cons]
   have h1:=stepO_wpOp hr hcall ho (fun d e=>hd ops[k] (by simp) d e) e (K:=To w0 F I Z N s1) (fun _ _ h=>h) (fun _ _ _=>False)
   refine opI_in hnd (fun a' w' hto => ?_) (fun _ _ _ h=>h.elim) (fun _ _ h=>h) h1
   refine pre_in hcall hd hnd he (by omega) hto fun a2 w2 h2 => ?_
   rw[show k+1+m=k+(m+1) by omega]
   exact hK a2 w2 h2
theorem callI_in {D:List Deferred} {ro:Option Nat} {n:Nat} {ops:Array Oper} {Q:Exit->Act->World->Prop} {i:Nat} {dst:Option Nat} {f:Operand} {args:Array Operand} {tys:Array TypeId} {ty:TypeId} {pos:String} {af:Array Edge} {g:FuncId} {vs:Array Value} {K:Act->World->Prop} {a:Act} {w:World}
  (ho:ops[i]?=some ⟨dst,.call { callee := .value f,args:=args,argTypes:=tys },ty,pos,af,none⟩) (hf:a.eval f = .func (.func g) #[] vs) (h:Invk P g (args.map a.eval++vs) w fun e w' => ∃v,e = .returned v/\K (lay D (a.put dst v)) w'):wpOpIn (fw ro) n P ops Q i K (lay D a) w:=by
 have hg:Goes P a ⟨dst,.call { callee := .value f,args:=args,argTypes:=tys },ty,pos,af,none⟩ w (fun a' w'=>K (lay D a') w'):=calls_goes hf (h.mono fun e w' h=>h)
 unfold wpOpIn
 rw[ho]
 dsimp only
 have hw:Region.wanted ⟨dst,.call { callee := .value f,args:=args,argTypes:=tys },ty,pos,af,none⟩ (yielded ops (lay D a).tmps)=true:=by simp[Region.wanted]
 rw[if_pos hw]
 exact op_in rfl (fun _ _ h=>h) (fun _ _ _ h=>h.elim) (fun _ _ h=>h) (hg fun _ _ _=>False)
end
end Go.Ev
namespace Go.Proofs
open Go.Shelf Go.RowKit
variable {P:Program} {ρ:Ren}
theorem append_str {w:World} (base:Nat) (t u ty e:TypeId) (i:TypeInfo) (ht:P.underlying t=some (.slice e)) (hu:P.underlying u=some .string) (hi:P.info? e=some i) (hz:i.zero=some (.int .u8 0))
  (hsize:i.size=1) (hby:i.bytes=1) (v:Value) (n:Nat) (xs:List Value) (hown:w.ownsRow base e 1 v n xs) (s:ByteArray)
  (h63:n+s.size<=maxLen) (hbytes:n+s.size<=140737488355328) (hbase:base<=w.heap.size) :
  ∃v' w',(Builtin.append_ #[t,u] ty #[v,.string s]).run P w = .ok v' w'/\w'.ownsRow base e 1 v' (n+s.size) (xs++Lib.strCells s)/\w.grownBy w' v.ownBlock/\(v'.ownBlock=v.ownBlock \/ ∀k,v'.ownBlock=some k->w.heap.size<=k):=by
 obtain⟨v',w',hr,h1,h2,_⟩:=Lib.run_append_own_string (P:=P) w base t u ty e i ht hu hi hz hsize hby v n xs hown s h63 hbytes hbase
 refine⟨v',w',hr,h1,h2,?_⟩
 rcases hown.2 with⟨rfl,rfl⟩|⟨g,cap,cur,rfl,hbg,hg,hnc,hcm,hcs,htake⟩
 ·right
  have hx:xs=[]:=List.eq_nil_of_length_eq_zero (by simpa using hown.1)
  subst hx
  obtain⟨v2,w2,hr2,h3,_,_⟩:=Lib.run_append_own_string (P:=P) w w.heap.size t u ty e i ht hu hi hz hsize hby (.slice none 0 0) 0 [] (World.ownsRow_nil w w.heap.size e 1) s h63 hbytes (Nat.le_refl _)
  rw[hr]at hr2
  cases hr2
  intro k hk
  rcases h3.2 with⟨e0,_⟩|⟨g,cap,cur,e0,hb,_⟩
  ·rw[e0]at hk;cases hk
  ·rw[e0]at hk;cases hk;exact hb
 ·have hxl:xs.length=n:=by simpa using hown.1
  by_cases hroom:n+s.size<=cap
  ·left
   have hcs':cur.size=cap:=by simpa using hcs
   have hr2:=Lib.run_append_room_string (P:=P) w t u ty e i ht hu hi hsize g n cap cur hg s hroom (by omega)
   rw[hr]at hr2
   cases hr2
   rfl
  ·right
   have holds : ∀j u,xs[j]?=some u->w.cell? ((⟨g,0,none⟩:Addr).add j)=some u:=hown.cells (g:=g) rfl
   have hr2:=Lib.run_append_grow_string (P:=P) w t u ty e i (.int .u8 0) ht hu hi hz ⟨g,0,none⟩ n cap xs (by rw[hsize];simpa using hxl) holds s (by omega) (by simp only[maxLen]at h63;omega) (by rw[hby];exact growslice_fits (by omega) (by omega))
   rw[hr]at hr2
   cases hr2
   intro k hk
   cases hk
   exact Nat.le_refl _
theorem wpList_append_str {w:World} {ops:Array Oper} {rest:List Oper} {o:Oper} {a:Act} {Q:Exit->Act->World->Prop} (hgd:o.guard=none) (sl x:Operand) (t u:TypeId)
  (ho:o.op = .call { callee := .builtin .append,args := #[sl,x],argTypes := #[t,u] })
  (base:Nat) (e:TypeId) (i:TypeInfo) (ht:P.underlying t=some (.slice e)) (hu:P.underlying u=some .string) (hi:P.info? e=some i) (hz:i.zero=some (.int .u8 0))
  (hsize:i.size=1) (hby:i.bytes=1)
  (v:Value) (n:Nat) (xs:List Value) (hs:a.eval sl=v) (hown:w.ownsRow base e 1 v n xs) (s:ByteArray) (hx:a.eval x = .string s)
  (h63:n+s.size<=maxLen) (hbytes:n+s.size<=140737488355328) (hbase:base<=w.heap.size)
  (h : ∀v' w',w'.ownsRow base e 1 v' (n+s.size) (xs++Lib.strCells s)->w.grownBy w' v.ownBlock->(v'.ownBlock=v.ownBlock \/ ∀k,v'.ownBlock=some k->w.heap.size<=k)->wpList P ops Q rest (a.put o.dst v') w'):wpList P ops Q (o::rest) a w:=by
 refine wpList_plain hgd fun K hK => ?_
 obtain⟨v',w',hr,h2,h3,h4⟩:=append_str (P:=P) base t u o.type e i ht hu hi hz hsize hby v n xs hown s h63 hbytes hbase
 unfold Oper.wp execOp
 simp only[ho,resolve,invoke,builtin,Sem.run_bind,Sem.run_pure,Result.andThen_ok,List.map_toArray,List.map_cons,List.map_nil,hs,hx,hr]
 exact hK _ _ (h v' w' h2 h3 h4)
structure KeepsBut (b:Nat) (v:Value) (w w':World):Prop where
 os:w'.os=w.os
 tape:w'.tape=w.tape
 output:w'.output=w.output
 size:w.heap.size<=w'.heap.size
 same : ∀k,k<w.heap.size->k≠b->v.ownBlock≠some k->w'.heap[k]?=w.heap[k]?
set_option maxHeartbeats 2000000 in
set_option maxRecDepth 100000 in
theorem Bld_WriteString (L:Lays.n166 P ρ) (X:Builder.Extra P ρ) (B b:Nat) (p v:Value) (bs:List Value) (s:ByteArray) (w:World) (hp:p = .pointer none\/p = .pointer (some ⟨b,0,none⟩))
  (hB:B<=b) (hbk0:w.heap[b]?=some (.cells #[p,v] (ρ.t 72) (0,0))) (hown0:w.ownsRow B (ρ.t 5) 1 v bs.length bs) (hne:v.ownBlock≠some b) (hlen:bs.length+s.size<=140737488355328) (hBw:B<=w.heap.size) :
  Calls P (ρ.f 166) #[.pointer (some ⟨b,0,none⟩),.string s] w fun e w'=>e = .returned (.tuple #[.int .i64 s.size,.nilIface]) /\
   ∃v',w'.heap[b]?=some (.cells #[.pointer (some ⟨b,0,none⟩),v'] (ρ.t 72) (0,0))/\w'.ownsRow B (ρ.t 5) 1 v' (bs++Lib.strCells s).length (bs++Lib.strCells s)/\v'.ownBlock≠some b/\(v'.ownBlock=v.ownBlock \/ ∀k,v'.ownBlock=some k->w.heap.size<=k)/\KeepsBut b v w w':=by
 obtain⟨i0,hi,hz0,hz1,hz2⟩:=info_parts X.infoByte
 have mixed:=L.mixed
 have t72:=L.t72;have a72:=L.a72;have z72:=L.z72;have v72:=L.v72;have u72:=run_underlying L.t72
 have t70:=L.t70;have a70:=L.a70;have z70:=L.z70;have v70:=L.v70;have u70:=run_underlying L.t70
 have t37:=L.t37;have a37:=L.a37;have z37:=L.z37;have v37:=L.v37;have u37:=run_underlying L.t37
 have t3:=L.t3;have a3:=L.a3;have z3:=L.z3;have v3:=L.v3;have u3:=run_underlying L.t3
 have t9:=L.t9;have a9:=L.a9;have z9:=L.z9;have v9:=L.v9;have u9:=run_underlying L.t9
 have t4:=L.t4;have a4:=L.a4;have z4:=L.z4;have v4:=L.v4;have u4:=run_underlying L.t4
 have t164:=L.t164;have a164:=L.a164;have z164:=L.z164;have v164:=L.v164;have u164:=run_underlying L.t164
 have t5:=X.t5;have a5:=X.a5;have z5:=X.z5;have v5:=X.v5;have u5:=run_underlying X.t5
 have e240 : ∀args w,(callFunc (ρ.f 240) args).run P w = .ok (.enter (ρ.f 240) args) w:=enters_of L.f240 (by kernel_rfl) rfl
 have hlt0:b<w.heap.size:=by
  rcases Nat.lt_or_ge b w.heap.size with h'|h'
  ·exact h'
  ·simp[Array.getElem?_eq_none h']at hbk0
 -- what copyCheck leaves
 have hcc:Calls P (ρ.f 240) #[.pointer (some ⟨b,0,none⟩)] w fun e w1=>e = .returned (.tuple #[])/\w1.heap[b]?=some (.cells #[.pointer (some ⟨b,0,none⟩),v] (ρ.t 72) (0,0))/\w1.ownsRow B (ρ.t 5) 1 v bs.length bs/\KeepsBut b v w w1:=by
  rcases hp with rfl|rfl
  ·have hA:Lib.BuilderAt (ρ.t 72) (ρ.t 5) B b (.pointer none) bs w:=⟨hB,v,hbk0,hown0,hne⟩
   refine(Any.Builder_copyCheck_fresh { L with } X.toX72 b w hA.cell0 hA.shape hA.frozen0).mono ?_
   rintro e w1 ⟨rfl,rfl⟩
   refine⟨rfl,?_,?_,rfl,rfl,rfl,by simp[World.setCell],fun k hk hkb _=>Below.heap_setCell _ _ _ _ (fun e=>hkb e)⟩
   ·simp[World.setCell,Array.getElem?_modify,hbk0]
   ·exact hown0.kept (row:=some b) ⟨rfl,rfl,rfl,by simp[World.setCell],fun k _ hk=>Below.heap_setCell _ _ _ _ (fun e=>hk (by simp[e]))⟩ (Or.inr hne)
  ·have hA:Lib.BuilderAt (ρ.t 72) (ρ.t 5) B b (.pointer (some ⟨b,0,none⟩)) bs w:=⟨hB,v,hbk0,hown0,hne⟩
   refine(Any.Builder_copyCheck_used { L with } X.toX72 b w hA.cell0).mono ?_
   rintro e w1 ⟨rfl,rfl⟩
   exact⟨rfl,hbk0,hown0,rfl,rfl,rfl,Nat.le_refl _,fun _ _ _ _=>rfl⟩
 go_enter L.f166,Body.n166_ntmps ρ
 go_wp2_with (go_at_fn (ρ.f 240);refine hcc.mono ?_)
 rintro e w1 ⟨rfl,hbk,hown,hk1⟩
 have c0:w1.cell? ⟨b,0,none⟩=some (.pointer (some ⟨b,0,none⟩)):=by rw[Lib.cell_of_heap hbk];rfl
 have c1:w1.cell? ⟨b,1,none⟩=some v:=by rw[Lib.cell_of_heap hbk];rfl
 go_wp2_with (at_builtin;refine wpList_append_str rfl _ _ (ρ.t 37) (ρ.t 9) rfl B (ρ.t 5) i0 L.t37 L.t9 hi hz0 hz1 hz2 _ _ _ rfl hown s rfl ?c3 ?c4 ?c5 ?_)
 case c3=>unfold maxLen;omega
 case c4=>omega
 case c5=>have:=hk1.size;omega
 intro v' w2 hown' hgrow hwhere
 have hlt:b<w1.heap.size:=Nat.lt_of_lt_of_le hlt0 hk1.size
 have hb2:w2.heap[b]?=some (.cells #[.pointer (some ⟨b,0,none⟩),v] (ρ.t 72) (0,0)):=by
  rw[hgrow.block b hlt (fun e=>hne e.symm)]
  exact hbk
 have d0:w2.cell? ⟨b,0,none⟩=some (.pointer (some ⟨b,0,none⟩)):=by rw[Lib.cell_of_heap hb2];rfl
 have d1:w2.cell? ⟨b,1,none⟩=some v:=by rw[Lib.cell_of_heap hb2];rfl
 have f1:w2.frozen? ⟨b,1,none⟩=false:=Lib.frozen_of_heap hb2 1
 obtain⟨ao,n',cap,rfl⟩ : ∃ao n' cap,v' = .slice ao n' cap:=by
  rcases hown'.2 with⟨hv,_⟩|⟨g,cap,cur,hv,_⟩
  ·exact⟨_,_,_,hv⟩
  ·exact⟨_,_,_,hv⟩
 go_wp2
 go_ret2
 refine⟨rfl,?_⟩
 have hne':=Lib.ownBlock_ne hown' hb2 X.neB5
 refine⟨_,?_,?_,hne',?_,?_⟩
 ·simp[World.setCell,Array.getElem?_modify,hb2]
 ·rw[List.length_append,Lib.strCells_length]
  exact hown'.kept (row:=some b) ⟨rfl,rfl,rfl,by simp[World.setCell],fun k _ hk=>Below.heap_setCell _ _ _ _ (fun e=>hk (by simp[e]))⟩ (Or.inr hne')
 ·exact hwhere.imp_right fun h k hk=>Nat.le_trans hk1.size (h k hk)
 refine⟨hgrow.os.trans hk1.os,hgrow.tape.trans hk1.tape,hgrow.output.trans hk1.output,?_,fun k hk hkb hkv => ?_⟩
 ·have:=hk1.size
  have:=hgrow.size
  simp[World.setCell]
  omega
 ·rw[Below.heap_setCell _ _ _ _ (fun e=>hkb e),hgrow.block k (Nat.lt_of_lt_of_le hk hk1.size) (fun e=>hkv e.symm)]
  exact hk1.same k hk hkb hkv
set_option maxHeartbeats 1000000 in
set_option maxRecDepth 100000 in
theorem Bld_String (L:Lays.n169 P ρ) (X:Builder.Extra P ρ) (B b:Nat) (p v:Value) (l:List UInt8) (w:World) (hbk:w.heap[b]?=some (.cells #[p,v] (ρ.t 72) (0,0))) (hown:w.ownsRow B (ρ.t 5) 1 v (Lib.byteCells l).length (Lib.byteCells l)) (h0:l≠[]) :
  Calls P (ρ.f 169) #[.pointer (some ⟨b,0,none⟩)] w fun e w'=>e = .returned (.string ⟨l.toArray⟩)/\KeepsBut b v w w':=by
 have hl0:l.length≠0:=by simpa using h0
 rw[Lib.byteCells_length]at hown
 obtain⟨g,cap,cur,rfl,hbg,hg,hnc,hcm,hcs,htake⟩ : ∃g cap cur,v = .slice (some ⟨g,0,none⟩) l.length cap/\B<=g/\w.heap[g]?=some (.cells cur (ρ.t 5) (0,0))/\l.length<=cap/\cap<=maxLen/\cur.size=cap*1/\cur.toList.take (l.length*1)=Lib.byteCells l:=by
  rcases hown.2 with⟨_,hz⟩|⟨g,cap,cur,hv,r⟩
  ·exact absurd hz hl0
  ·exact⟨g,cap,cur,hv,r⟩
 have c1:w.drew.cell? ⟨b,1,none⟩=some (.slice (some ⟨g,0,none⟩) l.length cap):=by
  have:w.drew.heap[b]?=some (.cells #[p,.slice (some ⟨g,0,none⟩) l.length cap] (ρ.t 72) (0,0)):=hbk
  rw[Lib.cell_of_heap this];rfl
 have hSD:(Builtin.unsafeSliceData_ #[(ρ.t 37)] (ρ.t 127) #[.slice (some ⟨g,0,none⟩) l.length cap]).run P w.drew = .ok (.pointer (some ⟨g,0,none⟩)) w.drew:=
  Lib.run_unsafeSliceData_row _ _ _ _ _ _ (by omega)
 have hUS:(Builtin.unsafeString_ #[(ρ.t 127),(ρ.t 3)] (ρ.t 9) #[.pointer (some ⟨g,0,none⟩),.int .i64 l.length]).run P w.drew = .ok (.string ⟨l.toArray⟩) (w.drew.freeze ⟨g,0,none⟩ l.length):=by
  refine Lib.run_unsafeString_row w.drew (ρ.t 127) (ρ.t 3) (ρ.t 9) (ρ.t 5) L.t127 X.cellsByte g cur.size (by have hg':w.drew.heap[g]?=some (.cells cur (ρ.t 5) (0,0)):=hg;simp[World.shape?,hg']) l h0 (by omega) (by unfold maxLen at hcm;omega) ?_
  intro j x hx
  have:=hown.cells (g:=g) rfl j (.int .u8 x.toNat) (by simp[Lib.byteCells,hx])
  exact this
 have mixed:=L.mixed
 have t72:=L.t72;have a72:=L.a72;have z72:=L.z72;have v72:=L.v72;have u72:=run_underlying L.t72
 have t70:=L.t70;have a70:=L.a70;have z70:=L.z70;have v70:=L.v70;have u70:=run_underlying L.t70
 have t37:=L.t37;have a37:=L.a37;have z37:=L.z37;have v37:=L.v37;have u37:=run_underlying L.t37
 have t127:=L.t127;have a127:=L.a127;have z127:=L.z127;have v127:=L.v127;have u127:=run_underlying L.t127
 have t3:=L.t3;have a3:=L.a3;have z3:=L.z3;have v3:=L.v3;have u3:=run_underlying L.t3
 have t9:=L.t9;have a9:=L.a9;have z9:=L.z9;have v9:=L.v9;have u9:=run_underlying L.t9
 have t5:=X.t5;have a5:=X.a5;have z5:=X.z5;have v5:=X.v5;have u5:=run_underlying X.t5
 have hkb:KeepsBut b (.slice (some ⟨g,0,none⟩) l.length cap) w (w.drew.freeze ⟨g,0,none⟩ l.length):=by
  have hb:=Lib.below_freeze (Below.drew (Below.refl 0 w)) (p:=⟨g,0,none⟩) (Nat.zero_le _) l.length
  refine⟨hb.os,hb.tape,hb.output,hb.size,fun k hk _ hkv => ?_⟩
  have hkg:k≠g:=fun e=>hkv (by rw[e];rfl)
  unfold World.freeze
  rw[if_neg hl0]
  show (w.heap.modify g _)[k]?=w.heap[k]?
  rw[Array.getElem?_modify,if_neg (fun e=>hkg e.symm)]
 go_enter L.f169,Body.n169_ntmps ρ
 go_wp2
 go_region_o
 all_goals (go_wp2;go_ret;exact⟨rfl,hkb⟩)
end Go.Proofs
namespace Go.Proofs.YtheclpmgipiejaaGreatDoor
open Go.Ev Go.RowKit
theorem lay_nil {a:Act}:lay [] a=a:=by
 obtain⟨t,d⟩:=a
 unfold lay
 simp
theorem mixed_ok:Tryz.prog.follows .mixedOrders=true:=by kernel_rfl
section
variable {F I:Nat->Prop} {Z:Zy} {st:St} {a:Act} {w0 w:World} {l k:Nat} {Q:Exit->Act->World->Prop}
theorem piece {ro:Option Nat} {c:Code} {R:Ex->St->Prop} (hG:GMet Z.gl) (hok:okCode 39 c=true) (hrd:rdCode c=true) (h:To w0 F I Z 39 st a w) (hw:WP CX c st R)
  (hQ : ∀s a' w',R .normal s->To w0 F I Z 39 s a' w'->Q .normal a' w') (hR : ∀e s,R e s->e = .normal):c.wpIn (fw ro) k Tryz.prog Q a w:=by
 obtain⟨n,e,s,he,hr⟩:=hw
 have he1:=hR e s hr
 subst he1
 have:=exec_in (Q:=Q) (callN_all (XL_ok hG) good_ok CX.mu n) mixed_ok [] ro k n hok hrd h he (fun a' w' hto=>by rw[lay_nil];exact hQ s a' w' hr hto)
 rwa [lay_nil]at this
theorem to_bool {b:Bool} {x:Nat} (h:To w0 F I Z 39 st a w) (hv:st.tmp x = .sv (.bool b)):a.eval (.tmp x) = .bool b:=by
 obtain⟨β,h⟩:=h
 have:=h.eval (.tmp x)
 rw[show st.eval (.tmp x) = .sv (.bool b) from hv]at this
 exact rep_bool this
theorem round_w {c5 c7 c8 c9:Code} {ops:Array Oper} {T:St->Prop} (hG:GMet Z.gl) (hok:okCode 39 (.seq c5 (.seq c7 c8))=true) (hrd:rdCode (.seq c5 (.seq c7 c8))=true)
  (hd:ops.toList.all (fun o=>match o.dst with|some d=>decide (d<39)|none=>true)=true) (hnd:ops.all (fun o=>notDefer o.op)=true) (hsz:ops.size=6)
  (h:To w0 F I Z 39 st a w)
  (hw:WP CX c5 st fun e s=>e = .normal/\WP CX c7 s fun e s=>e = .normal/\s.tmp 20 = .sv (.bool false)/\WP CX c8 s fun e s=>e = .normal/\s.tmp 31 = .sv (.bool false)/\WO CX false ops (ops.toList.take 5) s T)
  {K:Act->World->Prop} (hlast : ∀ (Q':Exit->Act->World->Prop),(∀a w,K a w->Q' .normal a w) -> ∀s a' w',T s->To w0 F I Z 39 s a' w'->wpOpsIn (fw (some l)) k Tryz.prog ops Q' (List.range' 5 1) a' w') (hK : ∀a w,K a w->Q .normal a w) :
  (Code.block 1 (.seq c5 (.block 2 (.seq c7 (.cond (.tmp 20) .skip (.seq c8 (.cond (.tmp 31) c9 (.region 6 ops false)))))))).wpIn (fw (some l)) k Tryz.prog Q a w:=by
 simp only[okCode,Bool.and_eq_true]at hok
 simp only[rdCode,Bool.and_eq_true]at hrd
 refine wpIn_block (wpIn_seq (piece hG hok.1 hrd.1 h hw (fun s a1 w1 hr h1 => ?_) (fun e s hr=>hr.1)))
 obtain⟨-,hw⟩:=hr
 refine wpIn_block (wpIn_seq (piece hG hok.2.1 hrd.2.1 h1 hw (fun s a1 w1 hr h1 => ?_) (fun e s hr=>hr.1)))
 obtain⟨-,e20,hw⟩:=hr
 refine wpIn_cond (t:=false) (to_bool h1 e20) ?_
 refine wpIn_seq (piece hG hok.2.2 hrd.2.2 h1 hw (fun s a1 w1 hr h1 => ?_) (fun e s hr=>hr.1))
 obtain⟨-,e31,hw⟩:=hr
 refine wpIn_cond (t:=false) (to_bool h1 e31) ?_
 obtain⟨n,s1,he,ht⟩:=hw
 refine wpIn_region ?_
 have hd' : ∀o∈ops.toList,∀d,o.dst=some d->d<39:=fun o ho d hod=>by
  have:=List.all_eq_true.1 hd o ho
  rw[hod]at this
  exact of_decide_eq_true this
 have hnd' : ∀o∈ops,notDefer o.op=true:=by
  rw[Array.all_eq_true']at hnd
  exact hnd
 rw[List.range_eq_range']
 have key:=pre_in (Q:=Exit.inBlock 2 (Exit.inBlock 1 Q)) (D:=[]) (ro:=some l) (n:=k) (callN_all (XL_ok hG) good_ok CX.mu n) (mu:=CX.mu) hd' hnd' (m:=5) (k:=0) he (by omega) h1 (fun a' w' hto=>by
  rw[lay_nil,hsz]
  exact hlast _ (fun a w ha=>hK a w ha) s1 a' w' ht hto)
 rwa [lay_nil]at key
theorem round_n {c5 c7 c:Code} (hG:GMet Z.gl) (hok:okCode 39 (.seq c5 c7)=true) (hrd:rdCode (.seq c5 c7)=true) (h:To w0 F I Z 39 st a w) {T:St->Prop}
  (hw:WP CX c5 st fun e s=>e = .normal/\WP CX c7 s fun e s=>e = .normal/\s.tmp 20 = .sv (.bool true)/\T s)
  (hK : ∀s a w,T s->To w0 F I Z 39 s a w->Q .normal a w) :
  (Code.block 1 (.seq c5 (.block 2 (.seq c7 (.cond (.tmp 20) .skip c))))).wpIn (fw (some l)) k Tryz.prog Q a w:=by
 simp only[okCode,Bool.and_eq_true]at hok
 simp only[rdCode,Bool.and_eq_true]at hrd
 refine wpIn_block (wpIn_seq (piece hG hok.1 hrd.1 h hw (fun s a1 w1 hr h1 => ?_) (fun e s hr=>hr.1)))
 obtain⟨-,hw⟩:=hr
 refine wpIn_block (wpIn_seq (piece hG hok.2 hrd.2 h1 hw (fun s a1 w1 hr h1 => ?_) (fun e s hr=>hr.1)))
 obtain⟨-,e20,ht⟩:=hr
 refine wpIn_cond (t:=true) (to_bool h1 e20) ?_
 exact wpIn_skip (hK s a1 w1 ht h1)
end
end Go.Proofs.YtheclpmgipiejaaGreatDoor
namespace Go.Proofs.YtheclpmgipiejaaGreatDoor
open Go.Ev Go.RowKit
theorem owns_same {w w':World} {base n size:Nat} {e:TypeId} {v:Value} {xs:List Value} (h:w.ownsRow base e size v n xs) (hs : ∀j,v.ownBlock=some j->w'.heap[j]?=w.heap[j]?):w'.ownsRow base e size v n xs:=by
 refine⟨h.1,?_⟩
 rcases h.2 with h2|⟨g,cap,cur,rfl,hbg,hg,hr⟩
 ·exact .inl h2
 ·exact .inr ⟨g,cap,cur,rfl,hbg,(hs g rfl).trans hg,hr⟩
theorem owns_lt {w:World} {base n size:Nat} {e:TypeId} {v:Value} {xs:List Value} (h:w.ownsRow base e size v n xs) {j:Nat} (hj:v.ownBlock=some j):j<w.heap.size/\base<=j:=by
 rcases h.2 with⟨rfl,_⟩|⟨g,cap,cur,rfl,hbg,hg,hr⟩
 ·cases hj
 ·cases hj
  exact⟨(Array.getElem?_eq_some_iff.1 hg).1,hbg⟩
def outK:Nat->List UInt8
 |0=>[]
 |1=>[111,107,10]
 |_=>[111,107,10,55,47,51,10]
def esK:Nat->List Ent
 |0=>[]
 |_=>entA
structure RunS (bb:Nat) (st:St) (es:List Ent):Prop where
 box:st.hob 2000003 1=some [.ptr 2000007 1 0]
 sess:SessR st 2000007 1 es 6
 up3:st.up 3 = .ptr 2000003 1 0
 up4:st.up 4 = .sv (.con (.pointer (some ⟨bb,0,none⟩)))
 gen3:1<st.gen 2000003
theorem RunS.same {bb:Nat} {st s:St} {es:List Ent} (h:RunS bb st es) (h1:s.hob=st.hob) (h2:s.obj=st.obj) (h3:s.gen=st.gen) (h4:s.up=st.up):RunS bb s es:=
 ⟨by rw[h1];exact h.box,h.sess.of (by rw[h1]) (fun _=>by rw[h2]) (by rw[h3];exact Nat.le_refl _),by rw[h4];exact h.up3,by rw[h4];exact h.up4,by rw[h3];exact h.gen3⟩
theorem cln_keep {st:St} {v:TV} {d g:Nat} (h:v.id=some (d,g)) (ho:(st.obj d g).isSome=true):v.cln st=v:=by
 unfold TV.cln
 rw[h]
 dsimp only
 rw[if_pos ho]
theorem RunS.mk' {bb:Nat} {st:St} {es:List Ent} (hbox:st.hob 2000003 1=some [.ptr 2000007 1 0]) (hsess:SessR st 2000007 1 es 6) (hgen:1<st.gen 2000003) {tm tu:Nat->TV} (hob : ∀d g ts,st.hob d g=some ts->st.obj d g=some []) (h3:tu 3 = .ptr 2000003 1 0) (h4:tu 4 = .sv (.con (.pointer (some ⟨bb,0,none⟩)))):RunS bb (st.with tm tu) es:=by
 have o3:=hob _ _ _ hbox
 have o7:st.obj 2000007 1=some []:=by
  rcases hsess.row with⟨_,e⟩|⟨g1,_,e,_⟩
  ·exact hob _ _ _ e
  ·exact hob _ _ _ e
 refine⟨?_,⟨hsess.ob,?_⟩,?_,?_,hgen⟩
 ·show Option.map (fun ts=>ts.map (·.cln st)) (st.hob 2000003 1)=_
  rw[hbox]
  show some [TV.cln st (.ptr 2000007 1 0)]=_
  rw[cln_keep (d:=2000007) (g:=1) rfl (by rw[o7];rfl)]
 ·rcases hsess.row with⟨e0,e⟩|⟨g1,hg,e,ho⟩
  ·refine .inl ⟨e0,?_⟩
   show Option.map (fun ts=>ts.map (·.cln st)) (st.hob 2000007 1)=_
   rw[e]
   rfl
  ·refine .inr ⟨g1,hg,?_,ho⟩
   show Option.map (fun ts=>ts.map (·.cln st)) (st.hob 2000007 1)=_
   rw[e]
   show some [TV.cln st (.ref 25 g1 2 0 es.length),_]=_
   rw[cln_keep (d:=25) (g:=g1) rfl (by rw[ho];rfl)]
   rfl
 ·show (tu 3).cln st=_
  rw[h3]
  exact cln_keep (d:=2000003) (g:=1) rfl (by rw[o3];rfl)
 ·show (tu 4).cln st=_
  rw[h4]
  rfl
theorem RunS.with {bb:Nat} {st:St} {es:List Ent} (h:RunS bb st es) {tm tu:Nat->TV} (hob : ∀d g ts,st.hob d g=some ts->st.obj d g=some []) (h3:tu 3=st.up 3) (h4:tu 4=st.up 4):RunS bb (st.with tm tu) es:=
 RunS.mk' h.box h.sess h.gen3 hob (h3.trans h.up3) (h4.trans h.up4)
def ForB (bb:Nat) (v:Value) (j:Nat):Prop:=(bb<=j/\j<=bb+5)\/v.ownBlock=some j
def recB (T0:Array Value) (fn bb:Nat) (assign body:Code) (s:LoopState):Loop:={ state:=s,pending:=none,fn,tmps:=T0,params := #[11],assign,body,defers:=bb+4 }
structure Side (w0:World) (T0:Array Value) (fn bb:Nat) (assign body:Code) (s:LoopState) (p v:Value) (out:List UInt8) (W:World):Prop where
 base:Below w0.heap.size w0 W
 rc:W.heap[bb+5]?=some (.loop (recB T0 fn bb assign body s))
 dfr:W.heap[bb+4]?=some (.deferred (some []))
 bld:W.heap[bb]?=some (.cells #[p,v] 65 (0,0))
 own:W.ownsRow w0.heap.size 5 1 v (Lib.byteCells out).length (Lib.byteCells out)
section
variable {G:List (Nat×Value)} {w0 W W':World} {T0:Array Value} {fn bb:Nat} {assign body:Code} {s s':LoopState} {p v:Value} {out:List UInt8}
theorem Side.same (h:Side w0 T0 fn bb assign body s p v out W) (hb:Below w0.heap.size W W') (hs : ∀j,ForB bb v j->W'.heap[j]?=W.heap[j]?):Side w0 T0 fn bb assign body s p v out W' :=
 ⟨h.base.trans hb,(hs _ (.inl ⟨by omega,by omega⟩)).trans h.rc,(hs _ (.inl ⟨by omega,by omega⟩)).trans h.dfr,(hs _ (.inl ⟨by omega,by omega⟩)).trans h.bld,owns_same h.own fun j hj=>hs j (.inr hj)⟩
theorem Side.turn (h:Side w0 T0 fn bb assign body s p v out W) (hle:w0.heap.size<=bb) (hv : ∀j,v.ownBlock=some j->bb+6<=j):Side w0 T0 fn bb assign body s' p v out (W.putObj (bb+5) (.loop (recB T0 fn bb assign body s'))):=by
 have hlt:bb+5<W.heap.size:=(Array.getElem?_eq_some_iff.1 h.rc).1
 refine⟨h.base.trans ((Below.refl _ W).grown (grownBy_putObj' W _ _) (by omega) (fun k e=>by cases e;omega)),World.putObj_heap_same hlt,(World.putObj_heap_other (by omega)).trans h.dfr,(World.putObj_heap_other (by omega)).trans h.bld,owns_same h.own fun j hj=>World.putObj_heap_other ?_⟩
 have:=hv j hj
 omega
structure RunJ (G:List (Nat×Value)) (w0:World) (T0:Array Value) (fn bb:Nat) (assign body:Code) (k:Nat) (W:World):Prop where
 le:w0.heap.size<=bb
 live : ∃p v st,(p = .pointer none\/p = .pointer (some ⟨bb,0,none⟩))/\(∀j,v.ownBlock=some j->bb+6<=j)/\Side w0 T0 fn bb assign body .ready p v (outK k) W/\RunS bb st (esK k)/\Live G (ForB bb v) w0.heap.size 39 (fun t=>T0.getD t undef) st ⟨T0,[]⟩ W
theorem far {F I:Nat->Prop} {Z:Zy} {N:Nat} {β:Nat->Nat->Nat} {st:St} {a:Act} {w1 w:World} (h:Rel w1 F I Z N β st a w) (hold:Z.old) {j:Nat} (hj:F j):w.heap[j]?=w1.heap[j]?:=h.ext.block j (h.old j hj) fun hi=>(h.imps j hi).2 hold hj
theorem far_below {F I:Nat->Prop} {Z:Zy} {N L:Nat} {β:Nat->Nat->Nat} {st:St} {a:Act} {w1 w:World} (h:Rel w1 F I Z N β st a w) (hI : ∀k,I k->L<=k) (hL:L<=w1.heap.size):Below L w1 w:=
 ⟨h.ext.os,h.ext.tape,h.ext.output,h.ext.size,fun b hb=>h.ext.block b (by omega) fun hi=>by have:=hI b hi;omega⟩
section
variable {G:List (Nat×Value)} {w0 W:World} {T0:Array Value} {fn bb k:Nat} {body:Code} {ty4:TypeId} {pos4:String} {af4:Array Edge}
theorem ext_T {T0:Array Value} {t d:Nat} {x:Value} (hd:d<T0.size):(T0.setIfInBounds d x).getD t undef=if t=d then x else T0.getD t undef:=by
 rw[Array.getD_eq_getD_getElem?,Array.getElem?_setIfInBounds]
 split
 ·rename_i h
  subst h
  rw[if_pos rfl]
  simp[hd]
 ·rename_i h
  rw[if_neg fun e=>h e.symm,Array.getD_eq_getD_getElem?]
theorem round_in {Q:Ending->World->Prop} {x:ByteArray} (hG:GMet G) (hj:RunJ G w0 T0 fn bb (.region 4 #[⟨some 5,.assign (.tmp 11),ty4,pos4,af4,none⟩] false) body k W)
  (hbody : ∀p v st a w z β,(p = .pointer none\/p = .pointer (some ⟨bb,0,none⟩))->(∀j,v.ownBlock=some j->bb+6<=j)->Side w0 T0 fn bb (.region 4 #[⟨some 5,.assign (.tmp 11),ty4,pos4,af4,none⟩] false) body .busy p v (outK k) w->RunS bb st (esK k) ->
   st.tmp 3 = .ptr 2000003 1 0->st.tmp 4 = .sv (.con (.pointer (some ⟨bb,0,none⟩)))->st.tmp 5 = .sv (.str x)->(∀j,bb<=j->j<=bb+3->w.heap[j]?=W.heap[j]?)->Rel w (ForB bb v) (ownB β st) ⟨z,fun t=>T0.getD t undef,True,G⟩ 39 β st a w->(∀k,ownB β st k->w0.heap.size<=k) ->
   body.wpIn (fw (some (bb+5))) 3 Tryz.prog (roundPost Tryz.prog (bb+5) Q) a w) :
  RoundIn Fence.wide 3 Tryz.prog (bb+5) fn ((#[11].zip #[.string x]).foldl (fun tmps (t,a)=>tmps.setIfInBounds t a) T0) (.region 4 #[⟨some 5,.assign (.tmp 11),ty4,pos4,af4,none⟩] false) body W Q:=by
 refine roundIn_of_wpIn trivial ?_
 rw[show ((#[11].zip #[Value.string x]).foldl (fun tmps (t,a)=>tmps.setIfInBounds t a) T0)=T0.setIfInBounds 11 (.string x) by simp]
 obtain⟨hle,p,v,st,hp,hv6,hs,hr,z,β,hrel,hL⟩:=hj
 have hsz:T0.size=39:=hrel.size
 have hob : ∀d g ts,st.hob d g=some ts->st.obj d g=some []:=fun d g ts h=>(hrel.hobs d g ts h).2.1
 obtain⟨z1,β1,hrel1,hL1⟩:=live_again (C:=fun _=>False) (F':=ForB bb v) (w':=W) (y:=fun t=>T0.getD t undef) (T:=T0.setIfInBounds 11 (.string x)) (tm:=fun t=>if t=11 then .sv (.str x) else st.up t) (tu:=st.up) hrel hs.base.size hL trivial
  (fun _ _ _ _ h _=>h) (fun _ h=>h.elim) (Nat.le_refl _) (fun j hj=>⟨hrel.old j hj,fun _=>hj⟩) (by simp[hsz]) (fun t=>by
   rw[ext_T (by omega)]
   by_cases h:t=11
   ·rw[if_pos h,if_pos h]
    exact .str x
   ·rw[if_neg h,if_neg h]
    exact hrel.ups t) hrel.ups
 have hr1:RunS bb (st.with (fun t=>if t=11 then .sv (.str x) else st.up t) st.up) (esK k):=hr.with hob rfl rfl
 have t11:(st.with (fun t=>if t=11 then .sv (.str x) else st.up t) st.up).tmp 11 = .sv (.str x):=rfl
 have t3:(st.with (fun t=>if t=11 then .sv (.str x) else st.up t) st.up).tmp 3 = .ptr 2000003 1 0:=hr1.up3
 have t4:(st.with (fun t=>if t=11 then .sv (.str x) else st.up t) st.up).tmp 4 = .sv (.con (.pointer (some ⟨bb,0,none⟩))):=hr1.up4
 generalize st.with (fun t=>if t=11 then .sv (.str x) else st.up t) st.up=st1 at *
 have hw:WP CX (.region 4 #[⟨some 5,.assign (.tmp 11),ty4,pos4,af4,none⟩] false) st1 (fun e s=>e = .normal/\s=st1.put 5 (.sv (.str x))):=by
  repeat (first|simp only[go_sem,t11]|simp (disch:=first|exact oa|fail) only[AX,t11]|refine wki ?_|refine wqn ?_|refine vpx [] ?_)
 refine piece (ro:=some (bb+5)) (k:=3) hG (by simp[okCode]) (by simp[rdCode,notDefer]) ⟨β1,hrel1⟩ hw (fun s a' w' hq hto => ?_) (fun e s h=>h.1)
 obtain⟨-,rfl⟩:=hq
 obtain⟨β2,hrel2⟩:=hto
 have hs2:Side w0 T0 fn bb (.region 4 #[⟨some 5,.assign (.tmp 11),ty4,pos4,af4,none⟩] false) body .ready p v (outK k) w':=hs.same (far_below hrel2 hL1 hs.base.size) fun j hj=>far hrel2 trivial hj
 refine⟨_,run_beginRound hs2.rc rfl,?_⟩
 have hr2:RunS bb (st1.put 5 (.sv (.str x))) (esK k):=hr1.same rfl rfl rfl rfl
 have hdf:=hrel2.defers
 obtain⟨T',D'⟩:=a'
 cases hdf
 obtain⟨z3,β3,hrel3,hL3⟩:=live_again (C:=fun _=>False) (F':=ForB bb v) (w':=w'.putObj (bb+5) (.loop (recB T0 fn bb (.region 4 #[⟨some 5,.assign (.tmp 11),ty4,pos4,af4,none⟩] false) body .busy))) (y:=fun t=>T0.getD t undef) (T:=T') (tm:=(st1.put 5 (.sv (.str x))).tmp) (tu:=(st1.put 5 (.sv (.str x))).up) hrel2 hs.base.size hL1 trivial
  (fun j cs ty fz h _=>by
   rw[World.putObj_heap_other]
   ·exact h
   ·rintro rfl
    rw[hs2.rc]at h
    cases h) (fun _ h=>h.elim) (by simp) (fun j hj=>⟨by rw[World.putObj_size];exact Nat.lt_of_lt_of_le (hrel2.old j hj) hrel2.ext.size,fun _=>hj⟩) hrel2.size hrel2.tmps hrel2.ups
 have hob2 : ∀d g ts,(st1.put 5 (.sv (.str x))).hob d g=some ts->(st1.put 5 (.sv (.str x))).obj d g=some []:=fun d g ts h=>(hrel2.hobs d g ts h).2.1
 have hr3:=hr2.with (tm:=(st1.put 5 (.sv (.str x))).tmp) (tu:=(st1.put 5 (.sv (.str x))).up) hob2 rfl rfl
 refine hbody p v _ ⟨T',[]⟩ _ z3 β3 hp hv6 (hs2.turn hle hv6) hr3 ?_ ?_ rfl (fun j h1 h2=>(World.putObj_heap_other (by omega)).trans (far hrel2 trivial (.inl ⟨h1,by omega⟩))) hrel3 hL3
 ·show (st1.tmp 3).cln _=_
  rw[t3]
  exact cln_keep (d:=2000003) (g:=1) rfl (by rw[hob2 _ _ _ hr2.box];rfl)
 ·show (st1.tmp 4).cln _=_
  rw[t4]
  rfl
end
end
end Go.Proofs.YtheclpmgipiejaaGreatDoor
namespace Go.Proofs.YtheclpmgipiejaaGreatDoor
open Go.Ev Go.RowKit
section
variable {G:List (Nat×Value)} {w0 W:World} {T0:Array Value} {fn bb k:Nat} {ty4 ty5:TypeId} {pos4 pos5:String} {af4 af5:Array Edge} {c5 c7 c8 c9:Code} {ops:Array Oper} {tys:Array TypeId} {x:ByteArray} {piece:List UInt8}
theorem done {assign body:Code} {p p' v v':Value} {s:St} {a a4:Act} {w w' w4:World} {z:Nat->Nat} {β:Nat->Nat->Nat} {I:Nat->Prop} (hle:w0.heap.size<=bb) (hv6 : ∀j,v.ownBlock=some j->bb+6<=j)
  (hs:Side w0 T0 fn bb assign body .busy p v (outK k) w') (hr:RunS bb s (esK (k+1))) (hrel:Rel w (ForB bb v) I ⟨z,fun t=>T0.getD t undef,True,G⟩ 39 β s a w') (hL : ∀k,I k->w0.heap.size<=k) (hsz:w0.heap.size<=w.heap.size)
  (hT:T0.size=39) (hout:outK (k+1)=outK k++piece) (hsame : ∀j,bb<=j->j<=bb+3->w.heap[j]?=W.heap[j]?)
  (hp':p' = .pointer none\/p' = .pointer (some ⟨bb,0,none⟩)) (hb4:w4.heap[bb]?=some (.cells #[p',v'] 65 (0,0))) (hown4:w4.ownsRow w0.heap.size 5 1 v' (Lib.byteCells (outK k)++Lib.strCells (bs piece)).length (Lib.byteCells (outK k)++Lib.strCells (bs piece)))
  (hwhere:v'.ownBlock=v.ownBlock \/ ∀k,v'.ownBlock=some k->w'.heap.size<=k) (hkeep:KeepsBut bb v w' w4) :
  roundPost Tryz.prog (bb+5) (fun e W'=>e = .returned (.bool true)/\RunJ G w0 T0 fn bb assign body (k+1) W' /\ ∀j,bb+1<=j->j<=bb+3->W'.heap[j]?=W.heap[j]?) .normal a4 w4:=by
 have hlt:bb+5<w'.heap.size:=(Array.getElem?_eq_some_iff.1 hs.rc).1
 have hsz4:=hkeep.size
 have hn : ∀j,bb<j->j<=bb+5->w4.heap[j]?=w'.heap[j]?:=fun j h1 h2=>hkeep.same j (by omega) (by omega) fun e=>by
  have:=hv6 _ e
  omega
 have hv6' : ∀j,v'.ownBlock=some j->bb+6<=j:=fun j hj=>by
  rcases hwhere with e|e
  ·exact hv6 j (e▸hj)
  ·have:=e j hj
   omega
 have hbel:Below w0.heap.size w' w4:=⟨hkeep.os,hkeep.tape,hkeep.output,hkeep.size,fun b hb=>hkeep.same b (by have:=hs.base.size;omega) (by omega) fun e=>by
  have:=hv6 _ e
  omega⟩
 have hs4:Side w0 T0 fn bb assign body .busy p' v' (outK (k+1)) w4:=by
  refine⟨hs.base.trans hbel,(hn _ (by omega) (by omega)).trans hs.rc,(hn _ (by omega) (by omega)).trans hs.dfr,hb4,?_⟩
  rw[hout,Lib.byteCells_append]
  exact hown4
 refine⟨_,_,run_endRound none hs4.rc,rfl,⟨hle,p',v',s.with s.up s.up,hp',hv6',hs4.turn hle hv6',hr.with (fun d g ts h=>(hrel.hobs d g ts h).2.1) rfl rfl,?_⟩,fun j h1 h2 => ?_⟩
 ·refine live_again (C:=fun j=>j=bb\/v.ownBlock=some j) hrel hsz hL trivial (fun j cs ty fz h hc => ?_) (fun j hj => ?_) (by rw[World.putObj_size];exact hsz4) (fun j hj=>⟨?_,fun hlt2 => ?_⟩) hT hrel.ups hrel.ups
  ·rw[World.putObj_heap_other,hkeep.same j (Array.getElem?_eq_some_iff.1 h).1 (fun e=>hc (.inl e)) (fun e=>hc (.inr e))]
   ·exact h
   ·rintro rfl
    rw[hs.rc]at h
    cases h
  ·rcases hj with rfl|hj
   ·exact .inl ⟨by omega,by omega⟩
   ·exact .inr hj
  ·rw[World.putObj_size]
   rcases hj with hj|hj
   ·omega
   ·exact(owns_lt hs4.own hj).1
  ·rcases hj with hj|hj
   ·exact .inl hj
   ·rcases hwhere with e|e
    ·exact .inr (e▸hj)
    ·have:=e j hj
     omega
 ·rw[World.putObj_heap_other (by omega),hn j (by omega) (by omega),far hrel trivial (.inl ⟨by omega,by omega⟩)]
  exact hsame j (by omega) h2
theorem yield_w (hG:GMet G) (hok:okCode 39 (.seq c5 (.seq c7 c8))=true) (hrd:rdCode (.seq c5 (.seq c7 c8))=true)
  (hd:ops.toList.all (fun o=>match o.dst with|some d=>decide (d<39)|none=>true)=true) (hnd:ops.all (fun o=>notDefer o.op)=true) (hsz:ops.size=6)
  (ho:ops[5]?=some ⟨some 19,.call { callee := .value (.func 31),args := #[.tmp 4,.tmp 18],argTypes:=tys },ty5,pos5,af5,none⟩)
  (hw : ∀st,RunS bb st (esK k)->st.tmp 3 = .ptr 2000003 1 0->st.tmp 4 = .sv (.con (.pointer (some ⟨bb,0,none⟩)))->st.tmp 5 = .sv (.str x) ->
   WP CX c5 st fun e s=>e = .normal/\WP CX c7 s fun e s=>e = .normal/\s.tmp 20 = .sv (.bool false)/\WP CX c8 s fun e s=>e = .normal/\s.tmp 31 = .sv (.bool false) /\
    WO CX false ops (ops.toList.take 5) s fun s=>RunS bb s (esK (k+1))/\s.tmp 4 = .sv (.con (.pointer (some ⟨bb,0,none⟩)))/\s.tmp 18 = .sv (.str (bs piece)))
  (hout:outK (k+1)=outK k++piece) (hlen:(outK k).length<=100) (hlen2:piece.length<=100)
  (hj:RunJ G w0 T0 fn bb (.region 4 #[⟨some 5,.assign (.tmp 11),ty4,pos4,af4,none⟩] false) (.block 1 (.seq c5 (.block 2 (.seq c7 (.cond (.tmp 20) .skip (.seq c8 (.cond (.tmp 31) c9 (.region 6 ops false)))))))) k W) :
  YieldAt Fence.wide 3 Tryz.prog (bb+5) #[.string x] W fun e W'=>e = .returned (.bool true)/\RunJ G w0 T0 fn bb (.region 4 #[⟨some 5,.assign (.tmp 11),ty4,pos4,af4,none⟩] false) (.block 1 (.seq c5 (.block 2 (.seq c7 (.cond (.tmp 20) .skip (.seq c8 (.cond (.tmp 31) c9 (.region 6 ops false)))))))) (k+1) W' /\ ∀j,bb+1<=j->j<=bb+3->W'.heap[j]?=W.heap[j]?:=by
 obtain⟨hle,p0,v0,st0,-,-,hs0,-,z0,β0,hrel0,-⟩:=id hj
 have hT:T0.size=39:=hrel0.size
 refine⟨fn,_,_,_,run_yield (args := #[.string x]) hs0.rc rfl,round_in hG hj ?_⟩
 clear hs0 hrel0
 generalize hA:(Code.region 4 #[⟨some 5,.assign (.tmp 11),ty4,pos4,af4,none⟩] false)=assign at *
 generalize hB:(Code.block 1 (.seq c5 (.block 2 (.seq c7 (.cond (.tmp 20) .skip (.seq c8 (.cond (.tmp 31) c9 (.region 6 ops false))))))))=body at *
 intro p v st a w z β hp hv6 hs hr t3 t4 t5 hsame hrel hL
 subst hB
 refine round_w (K:=fun a w=>roundPost Tryz.prog (bb+5) _ .normal a w) hG hok hrd hd hnd hsz ⟨β,hrel⟩ (hw st hr t3 t4 t5) ?_ (fun _ _ h=>h)
 generalize hB:(Code.block 1 (.seq c5 (.block 2 (.seq c7 (.cond (.tmp 20) .skip (.seq c8 (.cond (.tmp 31) c9 (.region 6 ops false))))))))=body at *
 intro Q' hQ' s a' w' ht hto
 obtain⟨hr',u4,u18⟩:=ht
 obtain⟨β',hrel'⟩:=hto
 rw[show List.range' 5 1=[5] from rfl,wpOpsIn_cons]
 have hs':Side w0 T0 fn bb assign body .busy p v (outK k) w':=hs.same (far_below hrel' hL hs.base.size) fun j hj=>far hrel' trivial hj
 have e4:a'.eval (.tmp 4) = .pointer (some ⟨bb,0,none⟩):=by
  have:=hrel'.eval (.tmp 4)
  rw[show s.eval (.tmp 4)=_ from u4]at this
  generalize a'.eval (.tmp 4)=y at this
  cases this
  rfl
 have e18:a'.eval (.tmp 18) = .string (bs piece):=by
  have:=hrel'.eval (.tmp 18)
  rw[show s.eval (.tmp 18)=_ from u18]at this
  exact rep_str this
 have hlt:bb+5<w'.heap.size:=(Array.getElem?_eq_some_iff.1 hs'.rc).1
 have hcall:=Bld_WriteString { Tryz.lays156 with } Tryz.Builder_Extra_156 w0.heap.size bb p v (Lib.byteCells (outK k)) (bs piece) w' hp hle hs'.bld hs'.own (fun e=>by have:=hv6 _ e;omega) (by rw[Lib.byteCells_length,bs_size];omega) hs'.base.size
 have key:=callI_in (D:=[]) (ro:=some (bb+5)) (n:=3) (Q:=Q') (K:=wpOpsIn (fw (some (bb+5))) 3 Tryz.prog ops Q' []) (a:=a') (w:=w') ho rfl (.inl ⟨enters_of (fn:=Tryz.f31) (c:=(Tryz.f31).body.get!) (by kernel_rfl) (by kernel_rfl) (by kernel_rfl),by
  rw[show (#[Operand.tmp 4,Operand.tmp 18].map a'.eval ++ #[]) = #[.pointer (some ⟨bb,0,none⟩),.string (bs piece)] by simp[e4,e18]]
  refine Calls.mono hcall ?_
  rintro e w4 ⟨rfl,v',hb4,hown4,hne4,hwhere,hkeep⟩
  refine⟨_,rfl,hQ' _ _ ?_⟩
  exact done hle hv6 hs' hr' hrel' hL hs.base.size hT hout hsame (.inr rfl) hb4 hown4 hwhere hkeep⟩)
 rwa [lay_nil]at key
theorem yield_n {c:Code} (hG:GMet G) (hok:okCode 39 (.seq c5 c7)=true) (hrd:rdCode (.seq c5 c7)=true)
  (hw : ∀st,RunS bb st (esK k)->st.tmp 3 = .ptr 2000003 1 0->st.tmp 4 = .sv (.con (.pointer (some ⟨bb,0,none⟩)))->st.tmp 5 = .sv (.str x) ->
   WP CX c5 st fun e s=>e = .normal/\WP CX c7 s fun e s=>e = .normal/\s.tmp 20 = .sv (.bool true)/\RunS bb s (esK (k+1)))
  (hout:outK (k+1)=outK k)
  (hj:RunJ G w0 T0 fn bb (.region 4 #[⟨some 5,.assign (.tmp 11),ty4,pos4,af4,none⟩] false) (.block 1 (.seq c5 (.block 2 (.seq c7 (.cond (.tmp 20) .skip c))))) k W) :
  YieldAt Fence.wide 3 Tryz.prog (bb+5) #[.string x] W fun e W'=>e = .returned (.bool true)/\RunJ G w0 T0 fn bb (.region 4 #[⟨some 5,.assign (.tmp 11),ty4,pos4,af4,none⟩] false) (.block 1 (.seq c5 (.block 2 (.seq c7 (.cond (.tmp 20) .skip c))))) (k+1) W' /\ ∀j,bb+1<=j->j<=bb+3->W'.heap[j]?=W.heap[j]?:=by
 obtain⟨hle,p0,v0,st0,-,-,hs0,-,z0,β0,hrel0,-⟩:=id hj
 have hT:T0.size=39:=hrel0.size
 refine⟨fn,_,_,_,run_yield (args := #[.string x]) hs0.rc rfl,round_in hG hj ?_⟩
 clear hs0 hrel0
 generalize hA:(Code.region 4 #[⟨some 5,.assign (.tmp 11),ty4,pos4,af4,none⟩] false)=assign at *
 generalize hB:(Code.block 1 (.seq c5 (.block 2 (.seq c7 (.cond (.tmp 20) .skip c)))))=body at *
 intro p v st a w z β hp hv6 hs hr t3 t4 t5 hsame hrel hL
 subst hB
 refine round_n hG hok hrd ⟨β,hrel⟩ (hw st hr t3 t4 t5) ?_
 generalize hB:(Code.block 1 (.seq c5 (.block 2 (.seq c7 (.cond (.tmp 20) .skip c)))))=body at *
 intro s a' w' hr' hto
 obtain⟨β',hrel'⟩:=hto
 have hs':Side w0 T0 fn bb assign body .busy p v (outK k) w':=hs.same (far_below hrel' hL hs.base.size) fun j hj=>far hrel' trivial hj
 refine done (piece:=[]) hle hv6 hs' hr' hrel' hL hs.base.size hT (by rw[hout,List.append_nil]) hsame hp hs'.bld ?_ (.inl rfl) ⟨rfl,rfl,rfl,Nat.le_refl _,fun _ _ _ _=>rfl⟩
 rw[show Lib.strCells (bs [])=[] from rfl,List.append_nil]
 exact hs'.own
end
end Go.Proofs.YtheclpmgipiejaaGreatDoor
namespace Go.Proofs.YtheclpmgipiejaaGreatDoor
open Go.Ev Go.RowKit
section
variable {P:Program} {D:List Deferred} {ro:Option Nat} {n:Nat} {Q:Exit->Act->World->Prop} {K:Act->World->Prop} {ops:Array Oper} {a:Act} {w w1:World}
theorem hand_in {i:Nat} {o:Oper} {v:Value} (ho:ops[i]?=some o) (hg:o.guard=none) (hd:notDefer o.op=true) (he:(execOp a.eval o).run P w = .ok (.value v) w1) (k:K (lay D (a.put o.dst v)) w1):wpOpIn (fw ro) n P ops Q i K (lay D a) w:=by
 unfold wpOpIn
 rw[ho]
 dsimp only
 rw[if_pos (by simp[Region.wanted,hg])]
 refine op_in (Q:=fun _ _ _=>False) (K:=fun a w=>K (lay D a) w) hd (fun _ _ h=>h) (fun _ _ _ h=>h.elim) (fun _ _ h=>h) ?_
 unfold Oper.wp
 rw[he]
 exact k
theorem hand_skip {i:Nat} {o:Oper} (ho:ops[i]?=some o) (hg:o.guard=none) (hd:notDefer o.op=true) (hdst:o.dst=none) (he:(execOp a.eval o).run P w = .ok .skip w1) (k:K (lay D a) w1):wpOpIn (fw ro) n P ops Q i K (lay D a) w:=by
 unfold wpOpIn
 rw[ho]
 dsimp only
 rw[if_pos (by simp[Region.wanted,hg])]
 refine op_in (Q:=fun _ _ _=>False) (K:=fun a w=>K (lay D a) w) hd (fun _ _ h=>h) (fun _ _ _ h=>h.elim) (fun _ _ h=>h) ?_
 unfold Oper.wp
 rw[he]
 show K (lay D (a.put o.dst undef)) w1
 rw[hdst]
 exact k
end
theorem pre_wo {ro:Option Nat} {n m:Nat} {Q:Exit->Act->World->Prop} {ops:Array Oper} {F I:Nat->Prop} {Z:Zy} {st:St} {a:Act} {w0 w:World} {T:St->Prop} (hG:GMet Z.gl)
  (hd:ops.toList.all (fun o=>match o.dst with|some d=>decide (d<39)|none=>true)=true) (hnd:ops.all (fun o=>notDefer o.op)=true) (hle:m<=ops.size)
  (h:To w0 F I Z 39 st a w) (hw:WO CX false ops (ops.toList.take m) st T) (k : ∀s a' w',T s->To w0 F I Z 39 s a' w'->wpOpsIn (fw ro) n Tryz.prog ops Q (List.range' m (ops.size-m)) a' w'):wpOpsIn (fw ro) n Tryz.prog ops Q (List.range ops.size) a w:=by
 obtain⟨N,s1,he,ht⟩:=hw
 have hd' : ∀o∈ops.toList,∀d,o.dst=some d->d<39:=fun o ho d hod=>by
  have:=List.all_eq_true.1 hd o ho
  rw[hod]at this
  exact of_decide_eq_true this
 have hnd' : ∀o∈ops,notDefer o.op=true:=by
  rw[Array.all_eq_true']at hnd
  exact hnd
 rw[List.range_eq_range',<- lay_nil (a:=a)]
 refine pre_in (D:=[]) (callN_all (XL_ok hG) good_ok CX.mu N) (mu:=CX.mu) hd' hnd' (m:=m) (k:=0) he (by omega) h (fun a' w' hto => ?_)
 rw[lay_nil,Nat.zero_add]
 exact k s1 a' w' ht hto
theorem range_go {P:Program} {n:Nat} {g:Operand} {ps:Array Tmp} {assign body:Code} {Q:Exit->Act->World->Prop} {a:Act} {w:World} {gf:Nat} {lb:Array Value} (hg:a.eval g = .func (.func gf) #[] lb) (eg:Enters P gf)
  (h : ∀fn W1,W1=(w.alloc (.deferred (some []))).alloc (.loop { state := .ready,pending:=none,fn,tmps:=a.tmps,params:=ps,assign,body,defers:=w.heap.size }) ->
   CallsIn Fence.wide (n-1) P gf (#[.func (.yield (w.heap.size+1)) #[] #[]]++lb) W1 (rangePost Fence.wide n P (w.heap.size+1) Q { a with defers:=[{ target := .collected w.heap.size,args := #[] }]++a.defers })) :
  (Code.rangeFunc g ps assign body).wpIn Fence.wide n P Q a w:=by
 refine wpIn_rangeFunc ?_
 intro fn hfn
 rw[show Fence.wide.round=none from rfl]
 obtain⟨W1,hW1⟩ : ∃W1,W1=(w.alloc (.deferred (some []))).alloc (.loop { state := .ready,pending:=none,fn,tmps:=a.tmps,params:=ps,assign,body,defers:=w.heap.size }):=⟨_,rfl⟩
 refine⟨w.heap.size+1,[{ target := .collected w.heap.size,args := #[] }],W1,{ target := .fn (.func gf) lb,args := #[.func (.yield (w.heap.size+1)) #[] #[]] },W1,gf,#[.func (.yield (w.heap.size+1)) #[] #[]]++lb,W1,?_,?_,fun _ _=>trivial,?_,(fun h=>absurd h (by decide)),?_⟩
 ·rw[hW1]
  exact run_enterLoop_outer _ _ _ _ _
 ·simp only[resolve,hg]
  simp[go_sem]
 ·exact eg _ _
 ·exact h fn W1 hW1
theorem desk_info : ∃i,Tryz.prog.info? 61=some i/\i.zero=some (.agg #[.pointer none])/\i.size=1:=⟨(Tryz.prog.info? 61).get!,by kernel_rfl,by kernel_rfl,by kernel_rfl⟩
theorem bld_info : ∃i,Tryz.prog.info? 65=some i/\i.zero=some (.agg #[.pointer none,.slice none 0 0]):=⟨(Tryz.prog.info? 65).get!,by kernel_rfl,by kernel_rfl⟩
section
variable {ro:Option Nat} {n:Nat} {Q:Exit->Act->World->Prop} {ops:Array Oper} {F I:Nat->Prop} {Z:Zy} {β:Nat->Nat->Nat} {st:St} {a:Act} {w0 w:World} {d g:Nat} {ty2 ty3:TypeId} {p2 p3:String} {af2 af3:Array Edge}
theorem desk_box (hsz:ops.size=4) (ho2:ops[2]?=some ⟨some 3,.alloc 61,ty2,p2,af2,none⟩) (ho3:ops[3]?=some ⟨none,.store 61 (.tmp 3) (.tmp 8),ty3,p3,af3,none⟩) (h:Rel w0 F I Z 39 β st a w) (h8:st.tmp 8 = .pst d g) (hg:g<st.gen d)
  (k : ∀β' a' w',Rel w0 F I Z 39 β' (st.newH 3 [.ptr d g 0]) a' w'->Q .normal a' w'):wpOpsIn (fw ro) n Tryz.prog ops Q (List.range' 2 2) a w:=by
 obtain⟨i,hi,hz,hs⟩:=desk_info
 have e8:a.tmps.getD 8 undef = .agg #[.pointer (some ⟨β d g,0,none⟩)]:=by
  have:=h.tmps 8
  rw[h8]at this
  exact this
 have hT:a.tmps.size=39:=h.size
 rw[show List.range' 2 2=[2,3] from rfl,wpOpsIn_cons,<- lay_nil (a:=a)]
 refine hand_in (D:=[]) (w1:=w.alloc (.cells #[.pointer none] 61)) (v := .pointer (some ⟨w.heap.size,0,none⟩)) ho2 rfl rfl ?_ ?_
 ·simp[execOp,Instr.alloc,run_zero hi hz,newVar,newRow]
  rfl
 rw[wpOpsIn_cons]
 obtain⟨w2,hw2⟩ : ∃w2,w2=(w.alloc (.cells #[.pointer none] 61)).setRow w.heap.size #[.pointer (some ⟨β d g,0,none⟩)]:=⟨_,rfl⟩
 have hnew:(w.alloc (.cells #[.pointer none] 61)).heap[w.heap.size]?=some (.cells #[.pointer none] 61 (0,0)):=World.alloc_heap_new w _
 refine hand_skip (D:=[]) (w1:=w2) ho3 rfl rfl rfl ?_ ?_
 ·have e3:(a.put (some 3) (.pointer (some ⟨w.heap.size,0,none⟩))).eval (.tmp 3) = .pointer (some ⟨w.heap.size,0,none⟩):=by
   show (a.tmps.setIfInBounds 3 _).getD 3 undef=_
   rw[ext_T (by omega),if_pos rfl]
  have e8':(a.put (some 3) (.pointer (some ⟨w.heap.size,0,none⟩))).eval (.tmp 8) = .agg #[.pointer (some ⟨β d g,0,none⟩)]:=by
   show (a.tmps.setIfInBounds 3 _).getD 8 undef=_
   rw[ext_T (by omega),if_neg (by omega)]
   exact e8
  have hrun:=storeVar_run (P:=Tryz.prog) (w:=w.alloc (.cells #[.pointer none] 61)) hi (v := .agg #[.pointer (some ⟨β d g,0,none⟩)]) (off:=0) (by rw[hs];rfl) (fun u hu=>by simp[Value.cells]at hu;rw[hu];rfl) hnew (by simp[Value.cells])
  simp only[execOp,e3,e8',Instr.storeAt,Instr.sureAddr,Sem.run_bind,Sem.run_pure,Result.andThen_ok,hrun]
  rw[hw2]
  rfl
 show Q .normal _ _
 have he:Ext (fun _=>False) w w2:=by
  subst hw2
  refine⟨rfl,rfl,rfl,by simp,fun b hb _ => ?_,fun _ _ _ _ h=>h.elim⟩
  rw[setRow_other _ _ _ _ (by omega)]
  exact Below.heap_alloc _ _ _ hb
 have hr:=h.adoptH (d:=3) (ts:=[.ptr d g 0]) (us := #[.pointer (some ⟨β d g,0,none⟩)]) (ty:=61) he (by omega) (Nat.le_refl _) (by subst hw2;exact setRow_heap _ _ _ _ _ _ hnew) (fun i t hi=>by
  cases i with
  |zero=>cases hi;exact⟨.inr ⟨d,g,0,rfl,hg⟩,_,rfl,rfl,rfl⟩
  |succ i=>cases hi)
 rw[lay_nil]
 exact k _ _ _ hr
end
section
variable {G:List (Nat×Value)} {w:World} {T5:Array Value} {fn bb k:Nat} {ty4 ty5:TypeId} {pos4 pos5:String} {af4 af5:Array Edge} {c5 c7 c8 c9:Code} {ops:Array Oper} {tys:Array TypeId} {assign body:Code}
theorem start_J {F0 I:Nat->Prop} {β3:Nat->Nat->Nat} {s3:St} {T3:Array Value} {w3 w5 W1:World} (hrel3:Rel w F0 I ⟨fun _=>0,fun _=>undef,False,G⟩ 39 β3 s3 ⟨T3,[]⟩ w3) (hI : ∀k,I k->w.heap.size<=k) (hbb:bb=w3.heap.size)
  (hbox:s3.hob 2000003 1=some [.ptr 2000007 1 0]) (hsess:SessR s3 2000007 1 [] 6) (hgen:1<s3.gen 2000003) (t3:s3.tmp 3 = .ptr 2000003 1 0)
  (hz5T:T5.size=39) (hT5 : ∀t,t≠4->t≠9->t≠10->T5.getD t undef=T3.getD t undef) (hT54:T5.getD 4 undef = .pointer (some ⟨bb,0,none⟩))
  (hz5:w5.heap.size=bb+4) (hold5 : ∀j,j<bb->w5.heap[j]?=w3.heap[j]?) (hbld5:w5.heap[bb]?=some (.cells #[.pointer none,.slice none 0 0] 65 (0,0))) (hbel5:Below w.heap.size w w5)
  (hW1:W1=(w5.alloc (.deferred (some []))).alloc (.loop { state := .ready,pending:=none,fn,tmps:=T5,params := #[11],assign,body,defers:=w5.heap.size })):RunJ G w T5 fn bb assign body 0 W1:=by
 have hle:w.heap.size<=bb:=by rw[hbb];exact hrel3.ext.size
 have hob3 : ∀d g ts,s3.hob d g=some ts->s3.obj d g=some []:=fun d g ts h=>(hrel3.hobs d g ts h).2.1
 have hWold : ∀j,j<bb+4->W1.heap[j]?=w5.heap[j]?:=fun j hj=>by
  rw[hW1,Below.heap_alloc _ _ _ (by rw[World.size_alloc];omega),Below.heap_alloc _ _ _ (by omega)]
 have hWz:W1.heap.size=bb+6:=by rw[hW1,World.size_alloc,World.size_alloc,hz5]
 have hdfr:W1.heap[bb+4]?=some (.deferred (some [])):=by
  rw[hW1,Below.heap_alloc _ _ _ (by rw[World.size_alloc];omega),<- hz5]
  exact World.alloc_heap_new _ _
 have hrc:W1.heap[bb+5]?=some (.loop (recB T5 fn bb assign body .ready)):=by
  have:=World.alloc_heap_new (w5.alloc (.deferred (some []))) (.loop { state := .ready,pending:=none,fn,tmps:=T5,params := #[11],assign,body,defers:=w5.heap.size })
  rw[<- hW1,World.size_alloc,hz5]at this
  exact this
 have hbel:Below w.heap.size w W1:=hbel5.trans (by
  rw[hW1]
  exact(((Below.refl _ w5).alloc (by omega) _).alloc (by rw[World.size_alloc];omega) _))
 refine⟨hle,.pointer none,.slice none 0 0,s3.with (fun t=>if t=4 then .sv (.con (.pointer (some ⟨bb,0,none⟩))) else if t=9 then .undef else if t=10 then .undef else s3.tmp t) (fun t=>if t=4 then .sv (.con (.pointer (some ⟨bb,0,none⟩))) else if t=9 then .undef else if t=10 then .undef else s3.tmp t),.inl rfl,(fun j h=>by cases h),⟨hbel,hrc,hdfr,(hWold _ (by omega)).trans hbld5,World.ownsRow_nil _ _ _ _⟩,RunS.mk' hbox hsess hgen hob3 t3 rfl,?_⟩
 have htt : ∀t,RepT β3 w3 (Mut F0 β3 s3) (T5.getD t undef) (if t=4 then .sv (.con (.pointer (some ⟨bb,0,none⟩))) else if t=9 then .undef else if t=10 then .undef else s3.tmp t):=by
  intro t
  by_cases h4:t=4
  ·subst h4
   rw[if_pos rfl,hT54]
   exact .con _ rfl
  rw[if_neg h4]
  by_cases h9:t=9
  ·rw[if_pos h9]
   trivial
  rw[if_neg h9]
  by_cases h10:t=10
  ·rw[if_pos h10]
   trivial
  rw[if_neg h10,hT5 t h4 h9 h10]
  exact hrel3.tmps t
 refine live_with (C:=fun _=>False) hrel3 (Nat.le_refl _) hI (fun j cs ty fz h _ => ?_) (fun _ h=>h.elim) (by omega) (fun j hj=>⟨?_,fun hlt => ?_⟩) (fun _ _ _ h=>h) rfl (fun d g ts h=>⟨by rw[hob3 d g ts h];rfl,h⟩) hz5T htt htt
 ·have hlt:=(Array.getElem?_eq_some_iff.1 h).1
  rw[hWold j (by omega),hold5 j (by omega)]
  exact h
 ·rcases hj with hj|hj
  ·omega
  ·cases hj
 ·rcases hj with hj|hj
  ·omega
  ·cases hj
theorem glob_J {W:World} (h:RunJ G w T5 fn bb assign body k W):GlOk G W (fun _=>False):=by
 obtain⟨_,p,v,st,_,_,_,_,z,β,hrel,_⟩:=h
 exact fun g v hg=>Rep.mono (fun _ _ _=>rfl) (fun _ _ h=>h.elim) (hrel.glob g v hg)
theorem turn_J {W W':World} (h:RunJ G w T5 fn bb assign body k W) (hs : ∀j,j<W.heap.size->j≠bb+1->W'.heap[j]?=W.heap[j]?) (hsz:W.heap.size<=W'.heap.size) (h1:W'.os=W.os) (h2:W'.tape=W.tape) (h3:W'.output=W.output):RunJ G w T5 fn bb assign body k W':=by
 obtain⟨hle,p,v,st,hp,hv6,hside,hr,z,β,hrel,hL⟩:=h
 have hlt:bb+5<W.heap.size:=(Array.getElem?_eq_some_iff.1 hside.rc).1
 have hbel:Below w.heap.size W W':=⟨h1,h2,h3,hsz,fun j hj=>hs j (by have:=hside.base.size;omega) (by omega)⟩
 have hown : ∀j,v.ownBlock=some j->W'.heap[j]?=W.heap[j]?:=fun j hj=>hs j (owns_lt hside.own hj).1 (by have:=hv6 j hj;omega)
 refine⟨hle,p,v,st.with st.up st.up,hp,hv6,⟨hside.base.trans hbel,(hs _ hlt (by omega)).trans hside.rc,(hs _ (by omega) (by omega)).trans hside.dfr,(hs _ (by omega) (by omega)).trans hside.bld,owns_same hside.own hown⟩,hr.with (fun d g ts h=>(hrel.hobs d g ts h).2.1) rfl rfl,?_⟩
 exact live_again (C:=fun j=>j=bb+1) hrel hside.base.size hL trivial (fun j cs ty fz h hc=>(hs j (Array.getElem?_eq_some_iff.1 h).1 hc).trans h) (fun j hj => .inl ⟨by omega,by omega⟩) hsz (fun j hj=>⟨Nat.lt_of_lt_of_le (hrel.old j hj) hsz,fun _=>hj⟩) hrel.size hrel.ups hrel.ups
end
end Go.Proofs.YtheclpmgipiejaaGreatDoor
namespace Go.Proofs.YtheclpmgipiejaaGreatDoor
open Go.Ev Go.RowKit
section
variable {G:List (Nat×Value)} {w w5:World} {T5:Array Value} {bb:Nat} {ty4 ty5:TypeId} {pos4 pos5:String} {af4 af5:Array Edge} {c5 c7 c8 c9:Code} {ops:Array Oper} {tys:Array TypeId}
theorem loop_go {Q:Exit->Act->World->Prop} (hG:GMet G) (hok:okCode 39 (.seq c5 (.seq c7 c8))=true) (hrd:rdCode (.seq c5 (.seq c7 c8))=true)
  (hd:ops.toList.all (fun o=>match o.dst with|some d=>decide (d<39)|none=>true)=true) (hnd:ops.all (fun o=>notDefer o.op)=true) (hsz:ops.size=6)
  (ho:ops[5]?=some ⟨some 19,.call { callee := .value (.func 31),args := #[.tmp 4,.tmp 18],argTypes:=tys },ty5,pos5,af5,none⟩)
  (hwA : ∀st,RunS bb st (esK 0)->st.tmp 3 = .ptr 2000003 1 0->st.tmp 4 = .sv (.con (.pointer (some ⟨bb,0,none⟩)))->st.tmp 5 = .sv (.str (textB (lineK 0))) ->
   WP CX c5 st fun e s=>e = .normal/\WP CX c7 s fun e s=>e = .normal/\s.tmp 20 = .sv (.bool false)/\WP CX c8 s fun e s=>e = .normal/\s.tmp 31 = .sv (.bool false) /\
    WO CX false ops (ops.toList.take 5) s fun s=>RunS bb s (esK (0+1))/\s.tmp 4 = .sv (.con (.pointer (some ⟨bb,0,none⟩)))/\s.tmp 18 = .sv (.str (bs [111,107,10])))
  (hwB : ∀st,RunS bb st (esK 1)->st.tmp 3 = .ptr 2000003 1 0->st.tmp 4 = .sv (.con (.pointer (some ⟨bb,0,none⟩)))->st.tmp 5 = .sv (.str (textB (lineK 1))) ->
   WP CX c5 st fun e s=>e = .normal/\WP CX c7 s fun e s=>e = .normal/\s.tmp 20 = .sv (.bool false)/\WP CX c8 s fun e s=>e = .normal/\s.tmp 31 = .sv (.bool false) /\
    WO CX false ops (ops.toList.take 5) s fun s=>RunS bb s (esK (1+1))/\s.tmp 4 = .sv (.con (.pointer (some ⟨bb,0,none⟩)))/\s.tmp 18 = .sv (.str (bs [55,47,51,10])))
  (hwC : ∀st,RunS bb st (esK 2)->st.tmp 3 = .ptr 2000003 1 0->st.tmp 4 = .sv (.con (.pointer (some ⟨bb,0,none⟩)))->st.tmp 5 = .sv (.str (textB (lineK 2))) ->
   WP CX c5 st fun e s=>e = .normal/\WP CX c7 s fun e s=>e = .normal/\s.tmp 20 = .sv (.bool true)/\RunS bb s (esK (2+1)))
  (h0 : ∀fn W1,W1=(w5.alloc (.deferred (some []))).alloc (.loop { state := .ready,pending:=none,fn,tmps:=T5,params := #[11],assign := .region 4 #[⟨some 5,.assign (.tmp 11),ty4,pos4,af4,none⟩] false,body := .block 1 (.seq c5 (.block 2 (.seq c7 (.cond (.tmp 20) .skip (.seq c8 (.cond (.tmp 31) c9 (.region 6 ops false))))))),defers:=w5.heap.size }) ->
   RunJ G w T5 fn bb (.region 4 #[⟨some 5,.assign (.tmp 11),ty4,pos4,af4,none⟩] false) (.block 1 (.seq c5 (.block 2 (.seq c7 (.cond (.tmp 20) .skip (.seq c8 (.cond (.tmp 31) c9 (.region 6 ops false)))))))) 0 W1)
  (hbx:Boxes (bb+1) (textB (restK 0)) w5) (hz5:w5.heap.size=bb+4) (e10:(Act.mk T5 []).eval (.tmp 10)=seqV (bb+1))
  (hQ : ∀W7 p v,(p = .pointer none\/p = .pointer (some ⟨bb,0,none⟩))->W7.heap[bb]?=some (.cells #[p,v] 65 (0,0))->W7.ownsRow w.heap.size 5 1 v (Lib.byteCells (outK 3)).length (Lib.byteCells (outK 3))->v.ownBlock≠some bb->v.ownBlock≠some (bb+4) ->
   W7.heap[bb+4]?=some (.deferred (some []))->Below w.heap.size w W7->w.heap.size<=bb->Q .normal ⟨T5,[⟨.collected (bb+4),#[]⟩]⟩ W7) :
  (Code.rangeFunc (.tmp 10) #[11] (.region 4 #[⟨some 5,.assign (.tmp 11),ty4,pos4,af4,none⟩] false) (.block 1 (.seq c5 (.block 2 (.seq c7 (.cond (.tmp 20) .skip (.seq c8 (.cond (.tmp 31) c9 (.region 6 ops false))))))))).wpIn Fence.wide 5 Tryz.prog Q ⟨T5,[]⟩ w5:=by
 have hok2:okCode 39 (.seq c5 c7)=true:=by
  simp only[okCode,Bool.and_eq_true]at hok ⊢
  exact⟨hok.1,hok.2.1⟩
 have hrd2:rdCode (.seq c5 c7)=true:=by
  simp only[rdCode,Bool.and_eq_true]at hrd ⊢
  exact⟨hrd.1,hrd.2.1⟩
 refine range_go e10 (enters_of (fn:=Tryz.f96) (c:=(Tryz.f96).body.get!) (by kernel_rfl) (by kernel_rfl) (by kernel_rfl)) ?_
 intro fn W1 hW1
 rw[hz5]
 have hJ0:=h0 fn W1 hW1
 have hb1:Boxes (bb+1) (textB (restK 0)) W1:=hbx.same fun k hk _=>by
  rw[hW1,Below.heap_alloc _ _ _ (by rw[World.size_alloc];omega),Below.heap_alloc _ _ _ hk]
 clear h0 hW1 hbx
 have key : ∀k W,k<3->RunJ G w T5 fn bb (.region 4 #[⟨some 5,.assign (.tmp 11),ty4,pos4,af4,none⟩] false) (.block 1 (.seq c5 (.block 2 (.seq c7 (.cond (.tmp 20) .skip (.seq c8 (.cond (.tmp 31) c9 (.region 6 ops false)))))))) k W->YieldAt Fence.wide 3 Tryz.prog (bb+5) #[.string (textB (lineK k))] W fun e W'=>e = .returned (.bool true)/\RunJ G w T5 fn bb (.region 4 #[⟨some 5,.assign (.tmp 11),ty4,pos4,af4,none⟩] false) (.block 1 (.seq c5 (.block 2 (.seq c7 (.cond (.tmp 20) .skip (.seq c8 (.cond (.tmp 31) c9 (.region 6 ops false)))))))) (k+1) W' /\ ∀j,bb+1<=j->j<=bb+3->W'.heap[j]?=W.heap[j]?:=by
  intro k W hk hj
  match k,hk,hj with
  |0,_,hj=>exact yield_w hG hok hrd hd hnd hsz ho hwA rfl (by decide) (by decide) hj
  |1,_,hj=>exact yield_w hG hok hrd hd hnd hsz ho hwB rfl (by decide) (by decide) hj
  |2,_,hj=>exact yield_n hG hok2 hrd2 hwC rfl hj
  |k+3,hk,_=>omega
 generalize (Code.region 4 #[⟨some 5,.assign (.tmp 11),ty4,pos4,af4,none⟩] false)=assign at *
 generalize (Code.block 1 (.seq c5 (.block 2 (.seq c7 (.cond (.tmp 20) .skip (.seq c8 (.cond (.tmp 31) c9 (.region 6 ops false))))))))=body at *
 refine(seq_run Fence.wide 4 (bb+1) (bb+5) trivial trivial (by omega) rfl (fun k W=>RunJ G w T5 fn bb assign body k W) ?_ ?_ ?_ W1 hJ0 hb1).mono ?_
 ·intro k W hj
  obtain⟨n,e,hn⟩:=str_Index CX_str (restK k) 10
  refine callsIn_wide.2 ((callN_calls (G:=G) (XL_ok hG) good_ok hn (enters_of (fn:=Tryz.f92) (c:=(Tryz.f92).body.get!) (by kernel_rfl) (by kernel_rfl) (by kernel_rfl)) (glob_J hj) (vals := #[.string (textB (restK k)),.string ⟨#[10]⟩]) rfl ?_).mono ?_)
  ·intro i x hx
   match i with
   |0=>simp only[List.getElem?_cons_zero,Option.some.injEq]at hx;subst hx;exact .str _
   |1=>simp only[List.getElem?_cons_zero,List.getElem?_cons_succ,Option.some.injEq]at hx;subst hx;exact .str _
   |_+2=>simp at hx
  ·rintro e' w' ⟨v,rfl,hr,hb⟩
   cases hr
   exact⟨rfl,hb⟩
 ·intro k W W' hj h1 h2 h3 h4 h5
  exact turn_J hj h1 h2 h3 h4 h5
 ·intro k W hk hj hbox
  obtain⟨fn',tmps,asg,bo,hy,hR⟩:=key k W hk hj
  exact⟨fn',tmps,asg,bo,hy,hR.mono fun e W' ⟨h1,h2,h3⟩=>⟨h1,h2,hbox.same fun j _ hj=>h3 j (by omega) (by omega)⟩⟩
 ·rintro e W' ⟨⟨v,rfl⟩,hj3⟩
  obtain⟨hle,p,v,st,hp,hv6,hside,-⟩:=hj3
  have hlt:bb+5<W'.heap.size:=(Array.getElem?_eq_some_iff.1 hside.rc).1
  refine⟨none,_,run_endLoop hside.rc (by simp[recB]),?_⟩
  refine hQ _ p v hp ((World.putObj_heap_other (by omega)).trans hside.bld) (owns_same hside.own fun j hj=>World.putObj_heap_other (by have:=hv6 j hj;omega)) (fun e=>by have:=hv6 _ e;omega) (fun e=>by have:=hv6 _ e;omega) ((World.putObj_heap_other (by omega)).trans hside.dfr) (hside.base.trans ((Below.refl _ W').grown (grownBy_putObj' W' _ _) (by have:=hside.base.size;omega) (fun k e=>by cases e;omega))) hle
end
set_option maxRecDepth 100000 in
set_option maxHeartbeats 2000000 in
theorem run_calls {G:List (Nat×Value)} (hG:GMet G) (w:World) (F0:Nat->Prop) (hgl:GlOk G w F0) (hF0 : ∀b,F0 b->b<w.heap.size) :
  Calls Tryz.prog 15 #[.string (textB (restK 0))] w fun e w'=>e = .returned (.string (textB (outK 3)))/\Below w.heap.size w w':=by
 refine(callsIn_wide (n:=5)).1 ?_
 refine callsIn_of_wp_marks Tryz.func15 rfl trivial ?_
 have hent:=entry (N:=39) (vals := #[.string (textB (restK 0))]) (args:=[.sv (.str (textB (restK 0)))]) (B:=fun _=>0) hgl (by decide) (by decide) hF0 rfl (fun i x hx=>by
  cases i with
  |zero=>cases hx;exact .str _
  |succ i=>cases hx) (fun i j x y hx _ hi=>by
  cases i with
  |zero=>cases hx;cases hi
  |succ i=>cases hx)
 rw[show (Tryz.f15).ntmps=39 from rfl]
 have hI : ∀k,impB [.sv (.str (textB (restK 0)))] (fun _=>0) k->w.heap.size<=k:=by
  rintro k ⟨i,x,hx,hi,_⟩
  cases i with
  |zero=>cases hx;cases hi
  |succ i=>cases hx
 generalize impB [.sv (.str (textB (restK 0)))] (fun _=>0)=I at hent hI
 generalize ({ tmps := #[Value.string (textB (restK 0))]++Array.replicate (39 - #[Value.string (textB (restK 0))].size) undef,defers:=[] }:Act)=a0 at hent ⊢
 refine wpIn_seq (piece (ro:=none) (Z:=⟨fun _=>0,fun _=>undef,False,G⟩) hG (by simp[okCode]) (by simp[rdCode,notDefer]) ⟨_,hent⟩ (R:=fun e s=>e = .normal/\s=(argSt [.sv (.str (textB (restK 0)))]).put 2 (.sv (.str ⟨#[]⟩))) ?_ ?_ (fun e s h=>h.1))
 ·repeat (first|simp only[go_sem]|simp (disch:=first|exact oa|fail) only[AX]|refine wki ?_|refine wqn ?_|refine vpx [] ?_)
 rintro s a1 w1 ⟨-,rfl⟩ hto
 refine wpIn_seq (wpIn_region (pre_wo (ro:=none) (m:=2) (Z:=⟨fun _=>0,fun _=>undef,False,G⟩) hG (by simp) (by simp[notDefer]) (by simp) hto (T:=fun s=>s=(((argSt [.sv (.str (textB (restK 0)))]).put 2 (.sv (.str ⟨#[]⟩))).newH 7 [.nil,.sv (.int .i64 6)]).put 8 (.pst 2000007 1)) ?_ ?_))
 ·repeat (first|simp only[go_sem]|simp (disch:=first|exact oa|fail) only[AX]|refine wki ?_|refine wqn ?_|refine vpx [] ?_)
  refine vf_heap sess_New ?_
  repeat (first|simp only[go_sem]|simp (disch:=first|exact oa|fail) only[AX]|refine wki ?_|refine wqn ?_|refine vpx [] ?_)
 rintro s a2 w2 rfl ⟨β2,hrel2⟩
 refine desk_box (ro:=none) rfl rfl rfl hrel2 rfl (by decide) ?_
 clear hrel2 hto hent
 intro β3 a3 w3 hrel3
 have hbox:((((((argSt [.sv (.str (textB (restK 0)))]).put 2 (.sv (.str ⟨#[]⟩))).newH 7 [.nil,.sv (.int .i64 6)]).put 8 (.pst 2000007 1)).newH 3 [.ptr 2000007 1 0])).hob 2000003 1=some [.ptr 2000007 1 0]:=by kernel_rfl
 have hsess:SessR ((((((argSt [.sv (.str (textB (restK 0)))]).put 2 (.sv (.str ⟨#[]⟩))).newH 7 [.nil,.sv (.int .i64 6)]).put 8 (.pst 2000007 1)).newH 3 [.ptr 2000007 1 0])) 2000007 1 [] 6:=⟨by decide,.inl ⟨rfl,by kernel_rfl⟩⟩
 have hgen:1<((((((argSt [.sv (.str (textB (restK 0)))]).put 2 (.sv (.str ⟨#[]⟩))).newH 7 [.nil,.sv (.int .i64 6)]).put 8 (.pst 2000007 1)).newH 3 [.ptr 2000007 1 0])).gen 2000003:=by decide
 have t0:((((((argSt [.sv (.str (textB (restK 0)))]).put 2 (.sv (.str ⟨#[]⟩))).newH 7 [.nil,.sv (.int .i64 6)]).put 8 (.pst 2000007 1)).newH 3 [.ptr 2000007 1 0])).tmp 0 = .sv (.str (textB (restK 0))):=by kernel_rfl
 have t3:((((((argSt [.sv (.str (textB (restK 0)))]).put 2 (.sv (.str ⟨#[]⟩))).newH 7 [.nil,.sv (.int .i64 6)]).put 8 (.pst 2000007 1)).newH 3 [.ptr 2000007 1 0])).tmp 3 = .ptr 2000003 1 0:=by kernel_rfl
 generalize ((((((argSt [.sv (.str (textB (restK 0)))]).put 2 (.sv (.str ⟨#[]⟩))).newH 7 [.nil,.sv (.int .i64 6)]).put 8 (.pst 2000007 1)).newH 3 [.ptr 2000007 1 0]))=s3 at *
 have hT3:a3.tmps.size=39:=hrel3.size
 have hD3:a3.defers=[]:=hrel3.defers
 have hob3 : ∀d g ts,s3.hob d g=some ts->s3.obj d g=some []:=fun d g ts h=>(hrel3.hobs d g ts h).2.1
 have v0:a3.tmps.getD 0 undef = .string (textB (restK 0)):=by
  have:=hrel3.tmps 0
  rw[t0]at this
  exact rep_str this
 obtain⟨T3,D3⟩:=a3
 cases hD3
 have hT3:T3.size=39:=hT3
 have v0:T3.getD 0 undef = .string (textB (restK 0)):=v0
 obtain⟨ib,hib,hzb⟩:=bld_info
 refine wpIn_seq (wpIn_region ?_)
 show wpOpsIn Fence.wide 5 _ _ _ [0] _ _
 rw[wpOpsIn_cons,<- lay_nil (a:=⟨T3,[]⟩)]
 refine hand_in (ro:=none) (D:=[]) (w1:=w3.alloc (.cells #[.pointer none,.slice none 0 0] 65)) (v := .pointer (some ⟨w3.heap.size,0,none⟩)) rfl rfl rfl ?_ ?_
 ·simp[execOp,Instr.alloc,run_zero hib hzb,newVar,newRow]
  rfl
 obtain⟨bb,hbb⟩ : ∃bb,bb=w3.heap.size:=⟨_,rfl⟩
 rw[<- hbb]
 rw[lay_nil]
 have hbld:(w3.alloc (.cells #[.pointer none,.slice none 0 0] 65)).heap[bb]?=some (.cells #[.pointer none,.slice none 0 0] 65 (0,0)):=by rw[hbb];exact World.alloc_heap_new _ _
 have hz4:(w3.alloc (.cells #[.pointer none,.slice none 0 0] 65)).heap.size=bb+1:=by rw[World.size_alloc,hbb]
 have hold4 : ∀j,j<bb->(w3.alloc (.cells #[.pointer none,.slice none 0 0] 65)).heap[j]?=w3.heap[j]?:=fun j hj=>Below.heap_alloc _ _ _ (by omega)
 have hbel4:Below w.heap.size w3 (w3.alloc (.cells #[.pointer none,.slice none 0 0] 65)):=(Below.refl _ w3).alloc (by have:=hrel3.ext.size;omega) _
 generalize w3.alloc (.cells #[.pointer none,.slice none 0 0] 65)=w4 at *
 obtain⟨T4,hT4⟩ : ∃T4,T4=T3.setIfInBounds 4 (.pointer (some ⟨bb,0,none⟩)):=⟨_,rfl⟩
 show Code.wpIn _ _ _ _ _ ⟨T3.setIfInBounds 4 _,[]⟩ _
 rw[<- hT4]
 have hz:T4.size=39:=by rw[hT4,Array.size_setIfInBounds];exact hT3
 refine wpIn_seq (wpIn_seq (wpIn_region ?_))
 show wpOpsIn Fence.wide 5 _ _ _ [0,1] _ _
 rw[wpOpsIn_cons,<- lay_nil (a:=⟨T4,[]⟩)]
 refine hand_in (ro:=none) (D:=[]) (w1:=w4) (v := .string (textB (restK 0))) rfl rfl rfl ?_ ?_
 ·have:(Act.mk T4 []).eval (.tmp 0) = .string (textB (restK 0)):=by
   show T4.getD 0 undef=_
   rw[hT4,ext_T (by omega),if_neg (by omega)]
   exact v0
  simp[execOp,this]
 rw[wpOpsIn_cons]
 refine callI_in (ro:=none) (D:=[]) rfl rfl (.inl ⟨enters_of (fn:=Tryz.f29) (c:=(Tryz.f29).body.get!) (by kernel_rfl) (by kernel_rfl) (by kernel_rfl),?_⟩)
 have e9:((Act.mk T4 []).put (some 9) (.string (textB (restK 0)))).eval (.tmp 9) = .string (textB (restK 0)):=by
  show (T4.setIfInBounds 9 _).getD 9 undef=_
  rw[ext_T (by omega),if_pos rfl]
 refine Eq.mpr (congrArg (fun vs=>Calls Tryz.prog 29 vs w4 _) (?_:_ = #[Value.string (textB (restK 0)),.string ⟨#[10]⟩])) ?_
 ·simp only[List.map_toArray,List.map_cons,List.map_nil,Array.append_empty]
  exact congrArg (fun v => #[v,Value.string ⟨#[10]⟩]) e9
 refine(callsIn_wide.1 (split_Seq Fence.wide 5 trivial trivial rfl rfl (textB (restK 0)) w4)).mono ?_
 rintro e w5 ⟨rfl,hbx,hbel5,hz5⟩
 refine⟨_,rfl,?_⟩
 rw[hz4]at hbx hz5
 obtain⟨T5,hT5⟩ : ∃T5,T5=(T4.setIfInBounds 9 (.string (textB (restK 0)))).setIfInBounds 10 (seqV w4.heap.size):=⟨_,rfl⟩
 rw[lay_nil]
 show Code.wpIn _ _ _ _ _ ⟨(T4.setIfInBounds 9 _).setIfInBounds 10 _,[]⟩ _
 rw[<- hT5]
 have hz5T:T5.size=39:=by rw[hT5,Array.size_setIfInBounds,Array.size_setIfInBounds];exact hz
 have e10:(Act.mk T5 []).eval (.tmp 10)=seqV (bb+1):=by
  show T5.getD 10 undef=_
  rw[hT5,ext_T (by rw[Array.size_setIfInBounds];omega),if_pos rfl,hz4]
 have hT5t : ∀t,t≠4->t≠9->t≠10->T5.getD t undef=T3.getD t undef:=fun t h4 h9 h10=>by
  rw[hT5,ext_T (by rw[Array.size_setIfInBounds];omega),if_neg h10,ext_T (by omega),if_neg h9,hT4,ext_T (by omega),if_neg h4]
 have hT54:T5.getD 4 undef = .pointer (some ⟨bb,0,none⟩):=by
  rw[hT5,ext_T (by rw[Array.size_setIfInBounds];omega),if_neg (by omega),ext_T (by omega),if_neg (by omega),hT4,ext_T (by omega),if_pos rfl]
 have hold5 : ∀j,j<bb->w5.heap[j]?=w3.heap[j]?:=fun j hj=>(hbel5.block j (by omega)).trans (hold4 j hj)
 have hbld5:w5.heap[bb]?=some (.cells #[.pointer none,.slice none 0 0] 65 (0,0)):=(hbel5.block bb (by omega)).trans hbld
 have hle:w.heap.size<=bb:=by rw[hbb];exact hrel3.ext.size
 have hbw:Below w.heap.size w w3:=⟨hrel3.ext.os,hrel3.ext.tape,hrel3.ext.output,hrel3.ext.size,fun b hb=>hrel3.ext.block b hb fun hi=>by have:=hI b hi;omega⟩
 have hbel:Below w.heap.size w w5:=(hbw.trans hbel4).trans (hbel5.mono (by omega))
 refine wpIn_block (loop_go (w:=w) (bb:=bb) hG (by simp[okCode]) (by simp[rdCode,notDefer]) (by simp) (by simp[notDefer]) (by simp) rfl ?_ ?_ ?_ ?_ hbx (by omega) e10 ?_)
 rotate_left 3
 ·intro fn W1 hW1
  exact start_J hrel3 hI hbb hbox hsess hgen t3 hz5T hT5t hT54 (by omega) hold5 hbld5 hbel hW1
 ·intro W7 p v hp hbk hown hv1 hv2 hdf hb7 _
  refine wpIn_seq (wpIn_region ?_)
  show wpOpsIn Fence.wide 5 _ _ _ [0,1] _ _
  rw[show Act.mk T5 [⟨.collected (bb+4),#[]⟩]=lay [⟨.collected (bb+4),#[]⟩] ⟨T5,[]⟩ from rfl,wpOpsIn_cons]
  refine callI_in (ro:=none) rfl rfl (.inl ⟨enters_of (fn:=Tryz.f34) (c:=(Tryz.f34).body.get!) (by kernel_rfl) (by kernel_rfl) (by kernel_rfl),?_⟩)
  refine Eq.mpr (congrArg (fun vs=>Calls Tryz.prog 34 vs W7 _) (?_:_ = #[Value.pointer (some ⟨bb,0,none⟩)])) ?_
  ·simp only[List.map_toArray,List.map_cons,List.map_nil,Array.append_empty]
   exact congrArg (fun v => #[v]) hT54
  refine Calls.mono (Bld_String { Tryz.lays156 with } Tryz.Builder_Extra_156 w.heap.size bb p v (outK 3) W7 hbk hown (by decide)) ?_
  rintro e W8 ⟨rfl,hk8⟩
  refine⟨_,rfl,?_⟩
  rw[wpOpsIn_cons]
  refine hand_in (ro:=none) (w1:=W8) (v := .string (textB (outK 3))) rfl rfl rfl ?_ ?_
  ·have:((Act.mk T5 []).put (some 38) (.string (textB (outK 3)))).eval (.tmp 38) = .string (textB (outK 3)):=by
    show (T5.setIfInBounds 38 _).getD 38 undef=_
    rw[ext_T (by omega),if_pos rfl]
   exact congrArg (fun v=>Result.ok (Next.value v) W8) this
  refine wpIn_ret ?_
  have hlt:=(Array.getElem?_eq_some_iff.1 hdf).1
  have hdf8:W8.heap[bb+4]?=some (.deferred (some [])):=(hk8.same (bb+4) hlt (by omega) hv2).trans hdf
  refine⟨(fun h=>by cases h),.inl ⟨bb+4,_,rfl,run_takeDeferred hdf8,.string (textB (outK 3)),?_,rfl,?_⟩⟩
  ·have e2:((((Act.mk T5 []).put (some 38) (.string (textB (outK 3)))).put (some 2) (.string (textB (outK 3))))).tmps.getD 2 undef = .string (textB (outK 3)):=by
    show ((T5.setIfInBounds 38 _).setIfInBounds 2 _).getD 2 undef=_
    rw[ext_T (by rw[Array.size_setIfInBounds];omega),if_pos rfl]
   refine results_list (vs:=[.string (textB (outK 3))]) ?_
   show (List.mapM (resF _) [ResultVar.tmp 2]).run _ _=_
   simp only[List.mapM_cons,List.mapM_nil,resF,Sem.run_bind,Sem.run_pure,Result.andThen_ok]
   exact congrArg (fun v=>Result.ok [v] (W8.putObj (bb+4) (Obj.deferred none))) e2
  ·refine(hb7.trans ⟨hk8.os,hk8.tape,hk8.output,hk8.size,fun k hk=>hk8.same k (by have:=hb7.size;omega) (by omega) fun e => ?_⟩).trans ((Below.refl _ W8).grown (grownBy_putObj' W8 _ _) (by have:=hb7.size;have:=hk8.size;omega) (fun k e=>by cases e;omega))
   have:=(owns_lt hown e).2
   omega
 ·intro st hr t3 t4 t5
  have t5:st.tmp 5 = .sv (.str (bs lineA)):=t5
  have w1:=words_A
  have hb:=hr.box
  have q1:(((108:UInt8).toNat:Int)==35)=false:=by decide
  have g1:decide (((lineA.length:Nat):Int)>1024)=false:=by decide
  repeat (first|simp only[go_sem,t3,t4,t5,strC,wordsA,wordsB,List.map_cons,List.map_nil,Int.reduceAdd,List.drop_succ_cons,List.drop_zero,List.head?_cons,Option.map_some,vo_ix,idxB_bs,List.getElem?_cons_zero,bs_size,q1,g1,hb]|simp (disch:=first|exact oa|fail) only[AX,t3,t4,t5,strC,wordsA,wordsB,List.map_cons,List.map_nil,Int.reduceAdd,List.drop_succ_cons,List.drop_zero,List.head?_cons,Option.map_some,vo_ix,idxB_bs,List.getElem?_cons_zero,bs_size,q1,g1,hb]|refine wki ?_|refine wqn ?_|refine vpx [] ?_|refine vf_of (by first|exact w1) ?_)
  refine desk_lineA (by decide) (by decide) (hr.sess.of rfl (fun _=>rfl) (Nat.le_refl _)) ?_
  intro s1 hk hs1
  have ap:(Option.map TV.sv (if (bs [111,107]).size + #[(10:UInt8)].size<=9223372036854775807 then some (SV.str (bs [111,107]++ByteArray.mk #[10])) else none))=some (.sv (.str (bs [111,107,10]))):=by
   rw[if_pos (by decide),show ByteArray.mk #[10]=bs [10] from rfl,bs_append]
   rfl
  repeat (first|simp only[go_sem,ap]|simp (disch:=first|exact oa|fail) only[AX,ap]|refine wki ?_|refine wqn ?_|refine vpx [] ?_)
  refine⟨?_,?_⟩
  ·exact⟨(hk.hob _ _ _ (by decide) hr.gen3 hb (by intro t ht;simp only[List.mem_singleton]at ht;subst ht;rfl)),hs1.of rfl (fun _=>rfl) (Nat.le_refl _),(hk.up 3 (show plQ (st.up 3)=true by rw[hr.up3];rfl)).trans hr.up3,(hk.up 4 (show plQ (st.up 4)=true by rw[hr.up4];rfl)).trans hr.up4,Nat.lt_of_lt_of_le hr.gen3 (hk.gen _)⟩
  ·exact(hk.tmp 4 (show plQ (st.tmp 4)=true by rw[t4];rfl)).trans t4
 ·intro st hr t3 t4 t5
  have t5:st.tmp 5 = .sv (.str (bs lineB)):=t5
  have w1:=words_B
  have hb:=hr.box
  have q1:(((118:UInt8).toNat:Int)==35)=false:=by decide
  have g1:decide (((lineB.length:Nat):Int)>1024)=false:=by decide
  repeat (first|simp only[go_sem,t3,t4,t5,strC,wordsA,wordsB,List.map_cons,List.map_nil,Int.reduceAdd,List.drop_succ_cons,List.drop_zero,List.head?_cons,Option.map_some,vo_ix,idxB_bs,List.getElem?_cons_zero,bs_size,q1,g1,hb]|simp (disch:=first|exact oa|fail) only[AX,t3,t4,t5,strC,wordsA,wordsB,List.map_cons,List.map_nil,Int.reduceAdd,List.drop_succ_cons,List.drop_zero,List.head?_cons,Option.map_some,vo_ix,idxB_bs,List.getElem?_cons_zero,bs_size,q1,g1,hb]|refine wki ?_|refine wqn ?_|refine vpx [] ?_|refine vf_of (by first|exact w1) ?_)
  refine desk_lineB (by decide) (by decide) (by decide) (hr.sess.of rfl (fun _=>rfl) (Nat.le_refl _)) ?_
  intro s1 hk hs1
  have ap:(Option.map TV.sv (if (bs [55,47,51]).size + #[(10:UInt8)].size<=9223372036854775807 then some (SV.str (bs [55,47,51]++ByteArray.mk #[10])) else none))=some (.sv (.str (bs [55,47,51,10]))):=by
   rw[if_pos (by decide),show ByteArray.mk #[10]=bs [10] from rfl,bs_append]
   rfl
  repeat (first|simp only[go_sem,ap]|simp (disch:=first|exact oa|fail) only[AX,ap]|refine wki ?_|refine wqn ?_|refine vpx [] ?_)
  refine⟨?_,?_⟩
  ·exact⟨(hk.hob _ _ _ (by decide) hr.gen3 hb (by intro t ht;simp only[List.mem_singleton]at ht;subst ht;rfl)),hs1.of rfl (fun _=>rfl) (Nat.le_refl _),(hk.up 3 (show plQ (st.up 3)=true by rw[hr.up3];rfl)).trans hr.up3,(hk.up 4 (show plQ (st.up 4)=true by rw[hr.up4];rfl)).trans hr.up4,Nat.lt_of_lt_of_le hr.gen3 (hk.gen _)⟩
  ·exact(hk.tmp 4 (show plQ (st.tmp 4)=true by rw[t4];rfl)).trans t4
 ·intro st hr t3 t4 t5
  have t5:st.tmp 5 = .sv (.str (bs [])):=t5
  have w1:=words_C
  repeat (first|simp only[go_sem,t3,t4,t5]|simp (disch:=first|exact oa|fail) only[AX,t3,t4,t5]|refine wki ?_|refine wqn ?_|refine vpx [] ?_|refine vf_of (by first|exact w1) ?_)
  exact hr.same rfl rfl rfl rfl
end Go.Proofs.YtheclpmgipiejaaGreatDoor
namespace Go.Proofs.YtheclpmgipiejaaGreatDoor
open Go.Ev Go.RowKit
def xRun:List Arg->Option (Ret×List (Option (List SV)))
 | [.sv (.str s)]=>if s=textB (restK 0) then some (.sv (.str (textB (outK 3))),[none]) else none
 |_=>none
noncomputable def XT:Callf:=fun g args=>if Nat.beq g 15 then xRun args else XL g args
noncomputable def CT:Cx:={ CX with X:=XT }
theorem CT_P:CT.P=Tryz.prog:=_root_.id rfl
theorem CT_mu (f:Nat):CT.mu f=muF f:=_root_.id rfl
attribute [go_sem] CT_P CT_mu
theorem run_at {G:List (Nat×Value)} (hG:GMet G) {args:List Arg} {r:Ret} {exps:List (Option (List SV))} (h:xRun args=some (r,exps)):CallG Tryz.prog G 15 args r exps:=by
 unfold xRun at h
 split at h
 ·rename_i s
  split at h
  ·rename_i hs
   subst hs
   cases h
   intro w F B vals hgl hF hsz hrep hinj
   have hv:vals = #[.string (textB (restK 0))]:=by
    obtain⟨l⟩:=vals
    have h0:=hrep 0 _ rfl
    match l,hsz with
    | [x],_=>
     have:Rep w F x (.str (textB (restK 0))):=h0
     cases this
     rfl
   rw[hv]
   refine .inl ⟨enters_of (fn:=Tryz.f15) (c:=(Tryz.f15).body.get!) (by kernel_rfl) (by kernel_rfl) (by kernel_rfl),(run_calls hG w F hgl hF).mono ?_⟩
   rintro e w' ⟨rfl,hb⟩
   refine⟨_,rfl,.str _,ext_below hb (fun b=>sv_imp (ss:=[SV.str (textB (restK 0))])),fun i cs hi => ?_⟩
   cases i with
   |zero=>cases hi
   |succ i=>cases hi
  ·cases h
 ·cases h
theorem xRun_st {k:Bool} {st:St} {vs:List TV}:xRun [.st k st vs]=none:=rfl
theorem XT_ok {G:List (Nat×Value)} (hG:GMet G):TabOk Tryz.prog G XT where
 ok:=fun g args r exps h=>by
  unfold XT at h
  split at h
  ·rename_i hg
   rw[show g=15 from Nat.eq_of_beq_eq_true hg]
   exact run_at hG h
  ·exact(XL_ok hG).ok g args r exps h
 inn:=fun g k st vs r exps h=>by
  unfold XT at h
  split at h
  ·rw[xRun_st]at h;cases h
  ·exact(XL_ok hG).inn g k st vs r exps h
 look:=fun f st vs=>by
  unfold XT
  split
  ·rfl
  ·exact(XL_ok hG).look f st vs
 eqv:=fun g b s vs r e h l=>by
  unfold XT at h ⊢
  split at h
  ·rw[xRun_st]at h;cases h
  ·rename_i hg
   obtain⟨m,hm⟩:=(XL_ok hG).eqv g b s vs r e h l
   exact⟨m,fun v=>(if_neg hg).trans (hm v)⟩
theorem XT_run:XL 15=fun _=>none:=by
 funext a
 rfl
theorem callN_up : ∀n,CallLe (callN Tryz.prog XL muF good n) (callN Tryz.prog XT muF good n)
 |0=>fun f a r h=>by simp[callN]at h
 |n+1=>fun f a r h=>by
  have ih:=callN_up n
  by_cases hf:f=15
  ·subst hf
   exfalso
   unfold callN at h
   rw[XT_run]at h
   have hg:good 15=false:=by kernel_rfl
   rw[hg]at h
   split at h
   ·dsimp only at h
    split at h
    ·rw[if_neg (by decide)]at h;cases h
    ·cases h
   ·dsimp only at h
    split at h
    ·rw[if_neg (by decide)]at h;cases h
    ·cases h
  have hX:XT f a=XL f a:=by
   unfold XT
   rw[if_neg fun e=>hf (Nat.eq_of_beq_eq_true e)]
  unfold callN at h ⊢
  rw[hX]
  split at h
  ·split at h
   ·exact h
   ·split at h
    ·split at h
     ·rename_i hok
      rw[if_pos hok]
      split at h
      ·split at h
       ·rename_i hl
        rw[if_pos hl]
        obtain⟨st,e⟩:=inlOf_some h
        rw[e]at h
        rw[exec_mono ih (Nat.le_refl n) e]
        exact h
       ·cases h
      ·cases h
     ·cases h
    ·cases h
  ·split at h
   ·exact h
   ·split at h
    ·split at h
     ·rename_i hok
      rw[if_pos hok]
      split at h
      ·split at h
       ·rename_i hl
        rw[if_pos hl]
        split at h
        ·rename_i e
         rw[exec_mono ih (Nat.le_refl n) e]
         exact h
        ·rename_i e
         rw[exec_mono ih (Nat.le_refl n) e]
         exact h
        ·cases h
       ·cases h
      ·cases h
     ·cases h
    ·cases h
theorem Fn.up {f:FuncId} {args:List SV} {r:SV} (h:Go.Ev.Fn CX f args r):Go.Ev.Fn CT f args r:=by
 obtain⟨n,e,hn⟩:=h
 exact⟨n,e,callN_up n _ _ _ hn⟩
theorem run_fn:Go.Ev.Fn CT 15 [.str (textB (restK 0))] (.str (textB (outK 3))):=by
 refine⟨1,[none],?_⟩
 have hX:CT.X 15 ([SV.str (textB (restK 0))].map Arg.sv)=some (.sv (.str (textB (outK 3))),[none]):=by
  show xRun [.sv (.str (textB (restK 0)))]=_
  unfold xRun
  exact if_pos rfl
 unfold callN
 rw[stq_sv,hX]
end Go.Proofs.YtheclpmgipiejaaGreatDoor
namespace Go.Proofs.YtheclpmgipiejaaGreatDoor
open Go.Ev Go.RowKit Go.WideShapes
theorem u_strs:Tryz.prog.underlying 22=some (.slice 9):=by kernel_rfl
theorem u_strS:Tryz.prog.underlying 9=some .string:=by kernel_rfl
theorem shp_str {n:Nat} {ss:List SV} (h:ShpT Tryz.prog (n+1) 9 ss) : ∃l:List UInt8,ss=[.str (bs l)]/\l.length<=maxLen:=by
 unfold ShpT at h
 rw[u_strS]at h
 obtain⟨s,rfl,hs⟩:=h
 exact⟨s.data.toList,by rw[bs_data],by rw[<- bs_size,bs_data];exact hs⟩
theorem shp_strs_all {n:Nat} : ∀l:List (List SV),(∀x∈l,ShpT Tryz.prog (n+1) 9 x) -> ∃ws:List (List UInt8),l.flatten=wC ws/\l.length=ws.length /\ ∀w∈ws,w.length<=maxLen:=by
 intro l
 induction l with
 |nil=>intro _;exact⟨[],rfl,rfl,fun w hw=>by cases hw⟩
 |cons x l ih=>
  intro hx
  obtain⟨ws,h1,h2,h3⟩:=ih fun y hy=>hx y (List.mem_cons_of_mem _ hy)
  obtain⟨w,rfl,hw⟩:=shp_str (hx x List.mem_cons_self)
  exact⟨w::ws,by rw[List.flatten_cons,h1];rfl,by simp[h2],fun y hy=>(List.mem_cons.1 hy).elim (fun e=>e▸hw) (h3 y)⟩
theorem shp_strs {n:Nat} {ss:List SV} (h:ShpT Tryz.prog (n+2) 22 ss) : ∃ws:List (List UInt8),ss=[.sl ws.length (wC ws)]/\ws.length<=maxLen /\ ∀w∈ws,w.length<=maxLen:=by
 unfold ShpT at h
 rw[u_strs]at h
 obtain⟨elems,rfl,hl,he⟩:=h
 obtain⟨ws,h1,h2,h3⟩:=shp_strs_all elems he
 exact⟨ws,by rw[h1,h2],h2▸hl,h3⟩
end Go.Proofs.YtheclpmgipiejaaGreatDoor
set_option maxHeartbeats 4000000
namespace Go.Proofs.YtheclpmgipiejaaGreatDoor
open Go.Ev
theorem known_23:Go.Ev.Fn CT 7 [] (.bool true):=by
 have h:=run_fn
 have e0:textB (restK 0)=ByteArray.mk #[108,101,116,32,97,32,61,32,49,32,50,32,52,10,118,97,114,32,97,10]:=rfl
 have e1:textB (outK 3)=ByteArray.mk #[111,107,10,55,47,51,10]:=rfl
 rw[e0,e1]at h
 refine fni Tryz.f7 ?_;unfold Tryz.f7;simp only[Option.get!_some]
 repeat (first|simp only[go_sem]|simp (disch:=first|exact oa|fail) only[AX]|refine wki ?_|refine wqn ?_|refine vf_of (by first|exact h) ?_)
 exact congrArg SV.bool (beq_self_eq_true _)
theorem wC_at {ws:List (List UInt8)} {i:Nat} (h:i<ws.length):((wC ws).drop i).head?=some (.str (bs (ws.getD i []))):=by
 unfold wC
 rw[List.head?_drop,List.getElem?_map,List.getD_eq_getElem?_getD,List.getElem?_eq_getElem h]
 rfl
theorem same_nl : ∀xs:List Nat,sameL (xs.map limb) (xs.map limb)=true
 | []=>rfl
 |x::xs=>by
  show (sameSV (limb x) (limb x)&&sameL (xs.map limb) (xs.map limb))=true
  rw[same_nl xs,Bool.and_true]
  simp[sameSV]
theorem same_rv {q:Rat} {s:Bool} {a1 a2:Nat} {b1 b2:List SV} (h:SV.agg [.bool s,.sl a1 b1,.sl a2 b2]=rv q):sameL b1 b1=true/\sameL b2 b2=true:=by
 injection h with h
 injection h with h1 h
 injection h with h2 h
 injection h with h3 h
 injection h2 with h4 h5
 injection h3 with h6 h7
 rw[h5,h7]
 exact⟨same_nl _,same_nl _⟩
theorem sz_num {l:List UInt8} (hl:l.length<=100) (h:(numP l).1=0):szR (numP l).2 500:=by
 obtain⟨v,-,-,hv⟩:=data_Number l (by omega)
 exact(hv h).2
theorem same_zero:Go.Ev.Fn CX 6 [.agg [.bool false,.sl 0 [],.sl 0 []],.agg [.bool false,.sl 0 [],.sl 0 []]] (.bool true):=by
 have ha:RatA (.agg [.bool false,.sl 0 [],.sl 0 []]) (mkRat (sgn false (wth [])) (wth [])) 1:=⟨false,[],[],rfl,(by intro x hx;cases hx),(by intro x hx;cases hx),by simp,by simp,rfl⟩
 have h:=ref2_Same ha ha (by omega) (by omega) (by omega)
 rw[decide_eq_true rfl]at h
 exact h
theorem same_num {l:List UInt8} {s:Bool} {a1 a2:Nat} {b1 b2:List SV} (hl:l.length<=100) (h0:(numP l).1=0) (h:SV.agg [.bool s,.sl a1 b1,.sl a2 b2]=rv (numP l).2):Go.Ev.Fn CX 6 [.agg [.bool s,.sl a1 b1,.sl a2 b2],.agg [.bool s,.sl a1 b1,.sl a2 b2]] (.bool true):=by
 have z:=RatA_rv (sz_num hl h0)
 have g:=ref2_Same z z (by omega) (by omega) (by omega)
 rw[decide_eq_true rfl,<- h]at g
 exact g
theorem dC_same {k n m:Int} {s1 s2:Bool} {n1 n2 n3 n4:Nat} {c1 c2 c3 c4:List SV} (h1:sameL c1 c1=true) (h2:sameL c2 c2=true) (h3:sameL c3 c3=true) (h4:sameL c4 c4=true):sameL (dC k n m s1 n1 c1 n2 c2 s2 n3 c3 n4 c4) (dC k n m s1 n1 c1 n2 c2 s2 n3 c3 n4 c4)=true:=by
 simp only[sameL,sameSV,decide_true,Bool.true_and,h1,h2,h3,h4]
theorem dist_fail {w x y:List UInt8} {ws:List (List UInt8)} {k n m:Int} {c d:UInt8} {s1 s2:Bool} {n1 n2 n3 n4:Nat} {c1 c2 c3 c4:List SV} (hws:ws.length<=9) (hs:shapeP w=(k,[c,d])) (hk:k≠0) (T:FnI CX 9 [.imp (zC k),.sv (.int .u8 (c.toNat:Int)),.sv (.str (bs x))] (.bool false) [some (dC k n m s1 n1 c1 n2 c2 s2 n3 c3 n4 c4),none,none]) :
  Go.Ev.Fn CX 4 [.sl (ws.length+3) (wC (w::x::y::ws))] (.tup [.agg (zC 0),.sl 0 [],.bool false]):=
 dist_two (q:=false) (n':=0) (m':=0) (t1:=false) (p1:=0) (d1:=[]) (p2:=0) (d2:=[]) (t2:=false) (p3:=0) (d3:=[]) (p4:=0) (d4:=[]) hws (fun h=>by cases h) hs hk T (fun h=>by cases h)
def Both (W:List (List UInt8)):Prop := ∃k n m s1 n1 c1 n2 c2 s2 n3 c3 n4 c4,∃ (rest:List (List UInt8)) (ok:Bool),rest.length<=12 /\
 Go.Ev.Fn CX 4 [.sl W.length (wC W)] (.tup [.agg (dC k n m s1 n1 c1 n2 c2 s2 n3 c3 n4 c4),.sl rest.length (wC rest),.bool ok]) /\
 Go.Ev.Fn CX 5 [.sl W.length (wC W)] (.tup [.agg (dC k n m s1 n1 c1 n2 c2 s2 n3 c3 n4 c4),.sl rest.length (wC rest),.bool ok]) /\
 Go.Ev.Fn CX 6 [.agg [.bool s1,.sl n1 c1,.sl n2 c2],.agg [.bool s1,.sl n1 c1,.sl n2 c2]] (.bool true) /\
 Go.Ev.Fn CX 6 [.agg [.bool s2,.sl n3 c3,.sl n4 c4],.agg [.bool s2,.sl n3 c3,.sl n4 c4]] (.bool true)
theorem both_fail {W:List (List UInt8)} (h1:Go.Ev.Fn CX 4 [.sl W.length (wC W)] (.tup [.agg (zC 0),.sl 0 [],.bool false])) (h2:Go.Ev.Fn CX 5 [.sl W.length (wC W)] (.tup [.agg (zC 0),.sl 0 [],.bool false])):Both W:=
 ⟨_,_,_,_,_,_,_,_,_,_,_,_,_,[],false,Nat.zero_le _,h1,h2,same_zero,same_zero⟩
theorem nil_same:sameL ([]:List SV) []=true:=rfl
theorem both (W:List (List UInt8)) (hW:W.length<=12) (hw : ∀w∈W,w.length<=100):Both W:=by
 match W with
 | []=>exact both_fail dist_none doc_none
 |w::ws=>
 rw[List.length_cons]at hW
 by_cases hbad:(shapeP w).1=0\/ws.length<(shapeP w).2.length
 ·exact both_fail (dist_bad (by omega) hbad) (doc_bad (by omega) hbad)
 have hk:(shapeP w).1≠0:=fun e=>hbad (.inl e)
 have hl:(shapeP w).2.length<=ws.length:=by omega
 have hsh:shapeP w=((shapeP w).1,(shapeP w).2):=rfl
 have hx0:=hw w List.mem_cons_self
 rcases (shapeP_cases w).resolve_left hk with⟨-,e|e|e|e|e⟩
 ·rw[e]at hsh hl
  match ws,hl with
  |x::y::ws,_=>
  simp only[List.length_cons]at hW
  have hx:=hw x (by simp)
  have hy:=hw y (by simp)
  obtain⟨r,exps,⟨s,a1,b1,a2,b2,rfl,rfl,hv⟩,T⟩:=takes_A (k:=(shapeP w).1) (n:=0) (m:=0) (s1:=false) (s2:=false) (n1:=0) (c1:=[]) (n2:=0) (c2:=[]) (n3:=0) (c3:=[]) (n4:=0) (c4:=[]) hx
  obtain⟨r,exps,⟨t,p1,q1,p2,q2,rfl,rfl,hu⟩,U⟩:=takes_B (k:=(shapeP w).1) (n:=0) (m:=0) (s1:=s) (s2:=false) (n1:=a1) (c1:=b1) (n2:=a2) (c2:=b2) (n3:=0) (c3:=[]) (n4:=0) (c4:=[]) hy
  by_cases hA:(numP x).1=0
  ·by_cases hB:(numP y).1=0
   ·have gx:=same_rv (hv hA)
    have gy:=same_rv (hu hB)
    have h1:=dist_two (ws:=ws) (by omega) (fun _=>dC_same gx.1 gx.2 gy.1 gy.2) hsh hk T fun _=>U
    have h2:=doc_AB (ws:=ws) hx hy (by omega) hsh hk (hv hA).symm (hu hB).symm
    rw[decide_eq_true hA,decide_eq_true hB]at h1
    rw[if_pos ⟨hA,hB⟩]at h2
    exact⟨_,_,_,_,_,_,_,_,_,_,_,_,_,ws,true,by omega,h1,h2,same_num hx hA (hv hA),same_num hy hB (hu hB)⟩
   ·have gx:=same_rv (hv hA)
    obtain⟨t',p1',q1',p2',q2',hu'⟩:=rv_form (numP y).2
    have h1:=dist_two (ws:=ws) (by omega) (fun h=>absurd (of_decide_eq_true h) hB) hsh hk T fun _=>U
    have h2:=doc_AB (ws:=ws) hx hy (by omega) hsh hk (hv hA).symm hu'
    rw[decide_eq_true hA,decide_eq_false hB]at h1
    rw[if_neg fun h=>hB h.2]at h2
    exact both_fail h1 h2
  ·obtain⟨s',a1',b1',a2',b2',hv'⟩:=rv_form (numP x).2
   obtain⟨t',p1',q1',p2',q2',hu'⟩:=rv_form (numP y).2
   rw[decide_eq_false hA]at T
   have h1:=dist_fail (ws:=ws) (y:=y) (by omega) hsh hk T
   have h2:=doc_AB (ws:=ws) hx hy (by omega) hsh hk hv' hu'
   rw[if_neg fun h=>hA h.1]at h2
   exact both_fail h1 h2
 ·rw[e]at hsh hl
  match ws,hl with
  |x::ws,_=>
  simp only[List.length_cons]at hW
  have hx:=hw x (by simp)
  obtain⟨r,exps,⟨s,a1,b1,a2,b2,rfl,rfl,hv⟩,T⟩:=takes_A (k:=(shapeP w).1) (n:=0) (m:=0) (s1:=false) (s2:=false) (n1:=0) (c1:=[]) (n2:=0) (c2:=[]) (n3:=0) (c3:=[]) (n4:=0) (c4:=[]) hx
  by_cases hA:(numP x).1=0
  ·have gx:=same_rv (hv hA)
   have h1:=dist_one (ws:=ws) (by omega) (fun _=>dC_same gx.1 gx.2 nil_same nil_same) hsh hk T
   have h2:=doc_A (ws:=ws) hx (by omega) hsh hk (hv hA).symm
   rw[decide_eq_true hA]at h1
   rw[if_pos hA]at h2
   exact⟨_,_,_,_,_,_,_,_,_,_,_,_,_,ws,true,by omega,h1,h2,same_num hx hA (hv hA),same_zero⟩
  ·obtain⟨s',a1',b1',a2',b2',hv'⟩:=rv_form (numP x).2
   have h1:=dist_one (ws:=ws) (by omega) (fun h=>absurd (of_decide_eq_true h) hA) hsh hk T
   have h2:=doc_A (ws:=ws) hx (by omega) hsh hk hv'
   rw[decide_eq_false hA]at h1
   rw[if_neg hA]at h2
   exact both_fail h1 h2
 ·rw[e]at hsh hl
  match ws,hl with
  |x::y::ws,_=>
  simp only[List.length_cons]at hW
  have hx:=hw x (by simp)
  have hy:=hw y (by simp)
  obtain⟨r,exps,⟨rfl,rfl⟩,T⟩:=takes_N (k:=(shapeP w).1) (n:=0) (m:=0) (s1:=false) (s2:=false) (n1:=0) (c1:=[]) (n2:=0) (c2:=[]) (n3:=0) (c3:=[]) (n4:=0) (c4:=[]) hx
  obtain⟨r,exps,⟨t,p1,q1,p2,q2,rfl,rfl,hu⟩,U⟩:=takes_A (k:=(shapeP w).1) (n:=(wholeP x).1) (m:=0) (s1:=false) (s2:=false) (n1:=0) (c1:=[]) (n2:=0) (c2:=[]) (n3:=0) (c3:=[]) (n4:=0) (c4:=[]) hy
  by_cases hA:(wholeP x).2=true
  ·by_cases hB:(numP y).1=0
   ·have gy:=same_rv (hu hB)
    have h1:=dist_two (ws:=ws) (by omega) (fun _=>dC_same gy.1 gy.2 nil_same nil_same) hsh hk T fun _=>U
    have h2:=doc_NA (ws:=ws) hx hy (by omega) hsh hk (hu hB).symm
    rw[hA,decide_eq_true hB]at h1
    rw[if_pos ⟨hA,hB⟩]at h2
    exact⟨_,_,_,_,_,_,_,_,_,_,_,_,_,ws,true,by omega,h1,h2,same_num hy hB (hu hB),same_zero⟩
   ·obtain⟨t',p1',q1',p2',q2',hu'⟩:=rv_form (numP y).2
    have h1:=dist_two (ws:=ws) (by omega) (fun h=>absurd (of_decide_eq_true h) hB) hsh hk T fun _=>U
    have h2:=doc_NA (ws:=ws) hx hy (by omega) hsh hk hu'
    rw[hA,decide_eq_false hB]at h1
    rw[if_neg fun h=>hB h.2]at h2
    exact both_fail h1 h2
  ·obtain⟨t',p1',q1',p2',q2',hu'⟩:=rv_form (numP y).2
   have hA':=Bool.eq_false_iff.2 hA
   rw[hA']at T
   have h1:=dist_fail (ws:=ws) (y:=y) (by omega) hsh hk T
   have h2:=doc_NA (ws:=ws) hx hy (by omega) hsh hk hu'
   rw[if_neg fun h=>hA h.1]at h2
   exact both_fail h1 h2
 ·rw[e]at hsh hl
  match ws,hl with
  |x::ws,_=>
  simp only[List.length_cons]at hW
  have hx:=hw x (by simp)
  obtain⟨r,exps,⟨rfl,rfl⟩,T⟩:=takes_N (k:=(shapeP w).1) (n:=0) (m:=0) (s1:=false) (s2:=false) (n1:=0) (c1:=[]) (n2:=0) (c2:=[]) (n3:=0) (c3:=[]) (n4:=0) (c4:=[]) hx
  have h1:=dist_one (ws:=ws) (by omega) (fun _=>dC_same nil_same nil_same nil_same nil_same) hsh hk T
  have h2:=doc_N (ws:=ws) hx (by omega) hsh hk
  by_cases hA:(wholeP x).2=true
  ·rw[hA]at h1
   rw[if_pos hA]at h2
   exact⟨_,_,_,_,_,_,_,_,_,_,_,_,_,ws,true,by omega,h1,h2,same_zero,same_zero⟩
  ·rw[Bool.eq_false_iff.2 hA]at h1
   rw[if_neg hA]at h2
   exact both_fail h1 h2
 ·rw[e]at hsh hl
  match ws,hl with
  |x::y::ws,_=>
  simp only[List.length_cons]at hW
  have hx:=hw x (by simp)
  have hy:=hw y (by simp)
  obtain⟨r,exps,⟨rfl,rfl⟩,T⟩:=takes_N (k:=(shapeP w).1) (n:=0) (m:=0) (s1:=false) (s2:=false) (n1:=0) (c1:=[]) (n2:=0) (c2:=[]) (n3:=0) (c3:=[]) (n4:=0) (c4:=[]) hx
  obtain⟨r,exps,⟨rfl,rfl⟩,U⟩:=takes_M (k:=(shapeP w).1) (n:=(wholeP x).1) (m:=0) (s1:=false) (s2:=false) (n1:=0) (c1:=[]) (n2:=0) (c2:=[]) (n3:=0) (c3:=[]) (n4:=0) (c4:=[]) hy
  have h1:=dist_two (ws:=ws) (by omega) (fun _=>dC_same nil_same nil_same nil_same nil_same) hsh hk T fun _=>U
  have h2:=doc_NM (ws:=ws) hx hy (by omega) hsh hk
  by_cases hA:(wholeP x).2=true/\(wholeP y).2=true
  ·rw[hA.1,hA.2]at h1
   rw[if_pos hA]at h2
   exact⟨_,_,_,_,_,_,_,_,_,_,_,_,_,ws,true,by omega,h1,h2,same_zero,same_zero⟩
  ·have hf:((wholeP x).2&&(wholeP y).2)=false:=by
    cases h:(wholeP x).2 with
    |false=>rfl
    |true=>
     cases g:(wholeP y).2 with
     |false=>rfl
     |true=>exact absurd ⟨h,g⟩ hA
   rw[hf]at h1
   rw[if_neg hA]at h2
   exact both_fail h1 h2
theorem tool_dists (v:SV) (shv:ShpT Tryz.prog 7 22 [v]):Go.Ev.Fn CT 3 [v] (.bool true):=by
 obtain⟨W,e,hm,hb⟩:=shp_strs (n:=5) shv
 injection e with e
 subst e
 clear shv
 have hlen:=wC_len W
 have hat:=fun {i:Nat} (h:i<W.length)=>wC_at h
 by_cases c0:12<W.length
 ·refine fni Tryz.f3 ?_;unfold Tryz.f3;simp only[Option.get!_some]
  repeat (first|simp only[go_sem]|simp (disch:=first|exact oa|fail) only[AX]|refine wki ?_|refine wqn ?_|refine vpd 15 [] ?_)
 have c0:W.length<=12:=by omega
 have hB:=both W c0
 have hk:=known_23
 have hall : ∀i,i<W.length->(W.getD i []).length<=maxLen:=by
  intro i h
  refine hb _ ?_
  rw[List.getD_eq_getElem?_getD,List.getElem?_eq_getElem h]
  exact List.getElem_mem h
 have hmem:(∀j,j<W.length->(W.getD j []).length<=100) -> ∀w∈W,w.length<=100:=by
  intro h w hw
  obtain⟨j,hj,rfl⟩:=List.mem_iff_getElem.1 hw
  have:=h j hj
  rw[List.getD_eq_getElem?_getD,List.getElem?_eq_getElem hj]at this
  exact this
 unfold maxLen at hall
 clear hb hm
 generalize hcs:wC W=cs at *
 refine fni Tryz.f3 ?_;unfold Tryz.f3;simp only[Option.get!_some]
 repeat (first|simp only[go_sem]|simp (disch:=first|exact oa|fail) only[AX]|refine wki ?_|refine wqn ?_|refine vpd 15 [] ?_)
 refine vp_loop_inv (fun s=>s.tmp 0 = .sv (.sl W.length cs)/\s.gen 4=0/\s.gen 7=0 /\ ∃i:Nat,s.tmp 3 = .sv (.int .i64 (i:Int))/\i<=W.length /\ ∀j,j<i->(W.getD j []).length<=100)
  (fun s=>match s.tmp 3 with | .sv (.int _ i)=>W.length-i.toNat|_=>0) ⟨rfl,rfl,rfl,0,rfl,by omega,fun j h=>by omega⟩ ?_
 rintro s2 ⟨i0,g4,g7,i,i3,hi,hb⟩
 by_cases hend:i=W.length
 ·subst hend
  obtain⟨k,n,m,s1,n1,c1,n2,c2,s3,n3,c3,n4,c4,rest,ok,hr,h1,h2,h3,h4⟩:=hB (hmem hb)
  replace h1:=Fn.up h1
  replace h2:=Fn.up h2
  replace h3:=Fn.up h3
  replace h4:=Fn.up h4
  rw[hcs]at h1 h2
  have rlen:=wC_len rest
  have rat:=fun {i:Nat} (h:i<rest.length)=>wC_at h
  generalize wC rest=ds at *
  clear hB hmem hall hat
  repeat (first|simp only[go_sem,i0,g4,g7,i3,beq_self_eq_true,Bool.not_true]|simp (disch:=first|exact oa|fail) only[AX,i0,g4,g7,i3,beq_self_eq_true,Bool.not_true]|refine wki ?_|refine wqn ?_|refine vpd 15 [] ?_|refine vf_of (by first|exact h1|exact h2) ?_)
  refine vp_loop_inv (fun s=>s.tmp 4 = .ptr 4 0 0/\s.obj 4 0=some (dC k n m s1 n1 c1 n2 c2 s3 n3 c3 n4 c4)/\s.tmp 7 = .ptr 7 0 0/\s.obj 7 0=some (dC k n m s1 n1 c1 n2 c2 s3 n3 c3 n4 c4)/\s.tmp 5 = .sv (.sl rest.length ds)/\s.tmp 8 = .sv (.sl rest.length ds) /\ ∃i:Nat,s.tmp 10 = .sv (.int .i64 (i:Int))/\i<=rest.length)
   (fun s=>match s.tmp 10 with | .sv (.int _ i)=>rest.length-i.toNat|_=>0) ⟨rfl,rfl,rfl,rfl,rfl,rfl,0,rfl,by omega⟩ ?_
  rintro s5 ⟨j4,o4,j7,o7,j5,j8,j,j10,hj⟩
  by_cases hje:j=rest.length
  ·subst hje
   repeat (first|simp only[go_sem,j4,o4,j7,o7,j5,j8,j10,beq_self_eq_true,decide_true]|simp (disch:=first|exact oa|fail) only[AX,j4,o4,j7,o7,j5,j8,j10,beq_self_eq_true,decide_true]|refine wki ?_|refine wqn ?_|refine vpd 15 [] ?_|refine vf_of (by first|exact h3|exact h4|exact hk) ?_)
  ·have g1:=rat (i:=j) (by omega)
   repeat (first|simp only[go_sem,j4,o4,j7,o7,j5,j8,j10,g1,rlen,beq_self_eq_true,Bool.not_true]|simp (disch:=first|exact oa|fail) only[AX,j4,o4,j7,o7,j5,j8,j10,g1,rlen,beq_self_eq_true,Bool.not_true]|refine wki ?_|refine wqn ?_|refine vpd 15 [] ?_)
   exact⟨⟨j+1,rfl,by omega⟩,by omega⟩
 ·have h1:=hat (i:=i) (by omega)
  have h2:=hall i (by omega)
  by_cases hbig:100<(W.getD i []).length
  ·clear hat hall hB hmem
   generalize W.getD i []=w at *
   repeat (first|simp only[go_sem,i0,g4,g7,i3,h1,hlen,bs_size]|simp (disch:=first|exact oa|fail) only[AX,i0,g4,g7,i3,h1,hlen,bs_size]|refine wki ?_|refine wqn ?_|refine vpd 15 [] ?_)
  ·have hnx : ∀j,j<i+1->(W.getD j []).length<=100:=by
    intro j hj
    by_cases e:j=i
    ·rw[e];omega
    ·exact hb j (by omega)
   clear hat hall hB hmem
   generalize W.getD i []=w at h1 h2 hbig
   repeat (first|simp only[go_sem,i0,g4,g7,i3,h1,hlen,bs_size]|simp (disch:=first|exact oa|fail) only[AX,i0,g4,g7,i3,h1,hlen,bs_size]|refine wki ?_|refine wqn ?_|refine vpd 15 [] ?_)
   exact⟨⟨i+1,rfl,by omega,hnx⟩,by omega⟩
end Go.Proofs.YtheclpmgipiejaaGreatDoor
