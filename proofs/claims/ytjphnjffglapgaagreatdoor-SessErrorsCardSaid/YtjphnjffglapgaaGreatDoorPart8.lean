/- Part 8 of the proof: the evaluator, contracts of functions and their plain laws (joined by program). No condition. -/
import Derived.Test.YtjphnjffglapgaaGreatDoorPart7
set_option linter.unusedVariables false
set_option linter.unusedSimpArgs false
set_option maxRecDepth 100000
namespace Go.Proofs.YtjphnjffglapgaaGreatDoor
open Go.Ev
theorem ent_set : ∀ {es:List Ent} {k:Nat} {n:Nat} {cs:List SV},k<es.length->splice (entC es) (k*2+1) [.sl n cs]=entC (es.set k ((es.getD k default).1,n,cs))
 |e::es,0,n,cs,_=>by
  rw[entC_cons,List.set_cons_zero,entC_cons]
  rfl
 |e::es,k+1,n,cs,h=>by
  have:=ent_set (es:=es) (k:=k) (n:=n) (cs:=cs) (by simpa using h)
  rw[entC_cons,List.set_cons_succ,entC_cons,show (k+1)*2+1=(k*2+1)+2 by omega]
  unfold splice at this ⊢
  rw[List.take_succ_cons,List.take_succ_cons,List.getD_cons_succ,<- this]
  simp only[List.length_cons,List.length_nil]
  rw[show k*2+1+2+(0+1)=(k*2+1+(0+1))+2 by omega,List.drop_succ_cons,List.drop_succ_cons]
  rfl
theorem cmp_zero : ∀ {a b:List UInt8},Lib.compareBytes a b=0->a=b
 | [],[],_=>rfl
 | [],_::_,h=>by simp[Lib.compareBytes]at h
 |_::_,[],h=>by simp[Lib.compareBytes]at h
 |x::a,y::b,h=>by
  unfold Lib.compareBytes at h
  split at h
  ·cases h
  ·rename_i h1
   split at h
   ·cases h
   ·rename_i h2
    have e:x=y:=UInt8.le_antisymm (UInt8.not_lt.1 h2) (UInt8.not_lt.1 h1)
    rw[e,cmp_zero h]
theorem name_at {es:List Ent} {t:List UInt8} {p:Nat} (h:isAt es t p=true):(es.getD p default).1=t:=by
 unfold isAt cmpAt at h
 rw[Bool.and_eq_true]at h
 exact cmp_zero (by simpa using h.2)
section
variable {ops:Array Oper} {l:List Oper} {dst:Option Nat} {st:St} {Q:St->Prop} {d g p:Nat} {es:List Ent} {t:List UInt8} {D:Int}
theorem sess_Set_at {m:Nat} {cs rs:List SV} (ht:t.length<=1048576) (hn:nameP t=true) (hp:PosAt es t p) (hl:es.length<=100000) (hm:m<=256) (hat:isAt es t p=true)
  (hc:Go.Ev.Fn CX 24 [.sl m cs] (.sl m rs)) {tl:TV} (htl:tl = .sv (.sl m cs)\/(tl = .nil/\m=0/\cs=[])) (h:SessR st d g es D)
  (k : ∀st',Keep d st st'->SessR st' d g (es.set p (t,m,rs)) D->WO CX false ops l (st'.putO dst (.sv (.int .i64 0))) Q) :
  WN CX ops l dst st Q 9 [.ptr d g 0,.sv (.str (bs t)),tl]:=by
 have nm:=sess_Name t ht
 rw[hn]at nm
 have hd':2000000<=d:=h.ob
 have hpt:plV tl=true:=by rcases htl with rfl|⟨rfl,_,_⟩<;>rfl
 refine wni Tryz.f9 ?_;unfold Tryz.f9;simp only[Option.get!_some]
 repeat (first|simp only[go_sem,hd',Bool.not_true]|simp (disch:=first|exact oa|fail) only[AX,hd',Bool.not_true]|refine wki ?_|refine wqn ?_|refine vpd 10 [2] ?_|refine vf_of (by first|exact nm) ?_)
 have hpl:plV (.ptr d g 0)=true:=pl_ob h.ob
 refine sess_at hp hl (h.of rfl (fun _=>rfl) (Nat.le_refl _)) ?_
 intro s1 hk hs1
 have k0:s1.tmp 0 = .ptr d g 0:=hk.tmp 0 hpl
 have k1:s1.tmp 1 = .sv (.str (bs t)):=hk.tmp 1 rfl
 have k2:s1.tmp 2=tl:=hk.tmp 2 hpt
 have hu:=hk.kp
 clear hk h
 have hpl:p<es.length:=by
  unfold isAt at hat
  rw[Bool.and_eq_true]at hat
  exact of_decide_eq_true hat.1
 have hset:=ent_set (n:=m) (cs:=rs) hpl
 have hname:(es.getD p default).1=t:=name_at hat
 rw[hname]at hset
 unfold splice at hset
 rcases htl with rfl|⟨rfl,rfl,rfl⟩
 all_goals
  obtain⟨_,hrow⟩:=hs1
  rcases hrow with⟨rfl,_⟩|⟨g1,hg1,ho,hobj⟩
  ·simp at hpl
  have hlen:=entC_len es
  repeat (first|simp only[go_sem,hd',k0,k1,k2,hat,ho,hobj,Bool.not_true,hlen]|simp (disch:=first|exact oa|fail) only[AX,hd',k0,k1,k2,hat,ho,hobj,Bool.not_true,hlen]|refine wki ?_|refine wqn ?_|refine vpd 10 [2] ?_|refine vf_of (by first|exact hc) ?_)
  refine k _ (keep_of (by repeat (first|exact Kp.refl|exact hu|refine Kp.trans ?_ hu|refine Kp.put ?_|refine Kp.setH ?_|refine Kp.newset ?_|refine Kp.set rfl ?_|refine Kp.set (by assumption) ?_|refine Kp.new ?_|refine Kp.grow rfl ?_|refine Kp.frzd rfl ?_|refine Kp.ins rfl ?_))) ⟨hd',.inr ⟨g1,hg1,?_,?_⟩⟩
  ·simp only[hob_leave,hob_put,hob_set]
   rw[ho,List.length_set]
  ·simp only[obj_leave,obj_put,obj_set,and_self,if_true]
   exact congrArg some hset
theorem not_at (es:List Ent) (t:List UInt8):isAt es t es.length=false:=by
 unfold isAt
 rw[decide_eq_false (Nat.lt_irrefl _),Bool.false_and]
theorem insE_set {es:List Ent} {p:Nat} (hp:p<=es.length) {n:List UInt8} {m:Nat} {cs:List SV} {e:Ent} (he:e.1=n):((insE es p e).getD p default).1=n/\(insE es p e).set p (n,m,cs)=insE es p (n,m,cs):=by
 have hl:(es.take p).length=p:=by rw[List.length_take];omega
 unfold insE
 constructor
 ·rw[List.getD_eq_getElem?_getD,List.getElem?_append_right (by omega),hl,Nat.sub_self]
  exact he
 ·rw[List.set_append_right _ _ (by omega),hl,Nat.sub_self]
  rfl
theorem sess_Set_new {m:Nat} {cs rs:List SV} (ht:t.length<=1048576) (hn:nameP t=true) (hp:PosAt es t p) (hat:isAt es t p=false) (hl:es.length<16) (hm:m<=256)
  (hc:Go.Ev.Fn CX 24 [.sl m cs] (.sl m rs)) {tl:TV} (htl:tl = .sv (.sl m cs)\/(tl = .nil/\m=0/\cs=[])) (h:SessR st d g es D)
  (k : ∀st',Keep d st st'->SessR st' d g (insE es p (t,m,rs)) D->WO CX false ops l (st'.putO dst (.sv (.int .i64 0))) Q) :
  WN CX ops l dst st Q 9 [.ptr d g 0,.sv (.str (bs t)),tl]:=by
 have nm:=sess_Name t ht
 rw[hn]at nm
 have hple:=hp.le
 have hd':2000000<=d:=h.ob
 have hpt:plV tl=true:=by rcases htl with rfl|⟨rfl,_,_⟩<;>rfl
 have hpl:plV (.ptr d g 0)=true:=pl_ob h.ob
 refine wni Tryz.f9 ?_;unfold Tryz.f9;simp only[Option.get!_some]
 repeat (first|simp only[go_sem,hd',Bool.not_true]|simp (disch:=first|exact oa|fail) only[AX,hd',Bool.not_true]|refine wki ?_|refine wqn ?_|refine vpd 10 [2] ?_|refine vf_of (by first|exact nm) ?_)
 refine sess_at hp (by omega) (h.of rfl (fun _=>rfl) (Nat.le_refl _)) ?_
 intro s1 hk hs1
 have k0:s1.tmp 0 = .ptr d g 0:=hk.tmp 0 hpl
 have k1:s1.tmp 1 = .sv (.str (bs t)):=hk.tmp 1 rfl
 have k2:s1.tmp 2=tl:=hk.tmp 2 hpt
 have hu:=hk.kp
 clear hk h
 have hlen:=entC_len (insE es p (t,0,[]))
 rw[insE_len hple]at hlen
 have hset:=ent_set (es:=insE es p (t,0,[])) (k:=p) (n:=m) (cs:=rs) (by rw[insE_len hple];omega)
 rw[(insE_set (m:=m) (cs:=rs) hple rfl).1,(insE_set hple rfl).2]at hset
 unfold splice at hset
 rcases htl with rfl|⟨rfl,rfl,rfl⟩
 all_goals
  obtain⟨_,hrow⟩:=hs1
  rcases hrow with⟨rfl,ho⟩|⟨g1,hg1,ho,hobj⟩
  ·have hp0:p=0:=by simpa using hple
   subst hp0
   repeat (first|simp only[go_sem,hd',k0,k1,k2,hat,ho,Bool.not_true,Bool.not_false]|simp (disch:=first|exact oa|fail) only[AX,hd',k0,k1,k2,hat,ho,Bool.not_true,Bool.not_false]|refine wki ?_|refine wqn ?_|refine vpd 10 [2] ?_)
   refine sess_insert_nil (d:=d) (t:=t) (g2:=s1.gen 49) ?_ ?_
   ·simp only[obj_put,obj_new,gen_put,and_self,if_true]
   intro s2 g2 hk2 hg2 hobj2 hhob2
   have j0:s2.tmp 0 = .ptr d g 0:=(hk2.tmp 0 (by simp only[tmp_put,tmp_new,k0,reduceIte,Nat.reduceEqDiff];exact hpl)).trans (by simp only[tmp_put,tmp_new,k0,reduceIte,Nat.reduceEqDiff])
   have j41:s2.tmp 41 = .ptr d g 0:=(hk2.tmp 41 hpl).trans rfl
   have j7:s2.tmp 7 = .sv (.int .i64 0):=(hk2.tmp 7 rfl).trans rfl
   have j2:s2.tmp 2=s1.tmp 2:=(hk2.tmp 2 (by simp only[tmp_put,tmp_new,k2,reduceIte,Nat.reduceEqDiff];rfl)).trans (by simp only[tmp_put,tmp_new,k2,reduceIte,Nat.reduceEqDiff])
   have j2:=j2.trans k2
   have hob2:s2.hob d g=some [.nil,.sv (.int .i64 D)]:=by rw[hhob2];exact ho
   have hobj2:s2.obj 25 g2=some [.str (bs t),.sl 0 []]:=hobj2
   have hu2:=hk2.kp
   clear hk2 hhob2 k0 k1 k2
   repeat (first|simp only[go_sem,hd',j0,j41,j7,j2,hob2,hobj2]|simp (disch:=first|exact oa|fail) only[AX,hd',j0,j41,j7,j2,hob2,hobj2]|refine wki ?_|refine wqn ?_|refine vpd 10 [2] ?_|refine vf_of (by first|exact hc) ?_)
   refine k _ (keep_of (by repeat (first|exact Kp.refl|exact hu2|exact hu|refine Kp.trans ?_ hu2|refine Kp.trans ?_ hu|refine Kp.put ?_|refine Kp.setH ?_|refine Kp.newset ?_|refine Kp.set rfl ?_|refine Kp.set (by assumption) ?_|refine Kp.new ?_|refine Kp.grow rfl ?_|refine Kp.frzd rfl ?_|refine Kp.ins rfl ?_))) ⟨hd',.inr ⟨g2,?_,?_,?_⟩⟩
   ·simp only[gen_leave,gen_put,gen_set,gen_setH]
    exact hg2
   ·simp only[hob_leave,hob_put,hob_set,hob_setH,and_self,if_true]
    rfl
   ·simp only[obj_leave,obj_put,obj_set,and_self,if_true]
    rfl
  ·repeat (first|simp only[go_sem,hd',k0,k1,k2,hat,ho,hobj,Bool.not_true,Bool.not_false]|simp (disch:=first|exact oa|fail) only[AX,hd',k0,k1,k2,hat,ho,hobj,Bool.not_true,Bool.not_false]|refine wki ?_|refine wqn ?_|refine vpd 10 [2] ?_)
   refine sess_insert (d:=d) (t:=t) (es:=es) (g1:=g1) (g2:=s1.gen 49) hple (by omega) ?_ ?_ ?_
   ·simp only[obj_put,obj_new]
    rw[if_neg (by omega)]
    exact hobj
   ·simp only[obj_put,obj_new,gen_put,and_self,if_true]
   intro s2 hk2 hg2 hobj2 hhob2
   have j0:s2.tmp 0 = .ptr d g 0:=(hk2.tmp 0 (by simp only[tmp_put,tmp_new,k0,reduceIte,Nat.reduceEqDiff];exact hpl)).trans (by simp only[tmp_put,tmp_new,k0,reduceIte,Nat.reduceEqDiff])
   have j41:s2.tmp 41 = .ptr d g 0:=(hk2.tmp 41 hpl).trans rfl
   have j7:s2.tmp 7 = .sv (.int .i64 (p:Int)):=(hk2.tmp 7 rfl).trans rfl
   have j2:s2.tmp 2=s1.tmp 2:=(hk2.tmp 2 (by simp only[tmp_put,tmp_new,k2,reduceIte,Nat.reduceEqDiff];rfl)).trans (by simp only[tmp_put,tmp_new,k2,reduceIte,Nat.reduceEqDiff])
   have j2:=j2.trans k2
   have hob2:s2.hob d g=some [.undef,.sv (.int .i64 D)]:=by
    rw[hhob2]
    simp only[hob_put,hob_new]
    rw[ho]
    simp only[Option.map_some,List.map_cons,List.map_nil,TV.kill,and_self,if_true]
   have hgen2:g1<s2.gen 25:=Nat.lt_of_lt_of_le hg1 (by simpa only[gen_put,gen_new,reduceIte,Nat.reduceEqDiff]using hg2)
   have hu2:=hk2.kp
   generalize hE:entC (insE es p (t,0,[]))=E at *
   clear hk2 hhob2 k0 k1 k2
   repeat (first|simp only[go_sem,hd',j0,j41,j7,j2,hob2,hobj2,hlen]|simp (disch:=first|exact oa|fail) only[AX,hd',j0,j41,j7,j2,hob2,hobj2,hlen]|refine wki ?_|refine wqn ?_|refine vpd 10 [2] ?_|refine vf_of (by first|exact hc) ?_)
   refine k _ (keep_of (by repeat (first|exact Kp.refl|exact hu2|exact hu|refine Kp.trans ?_ hu2|refine Kp.trans ?_ hu|refine Kp.put ?_|refine Kp.setH ?_|refine Kp.newset ?_|refine Kp.set rfl ?_|refine Kp.set (by assumption) ?_|refine Kp.new ?_|refine Kp.grow rfl ?_|refine Kp.frzd rfl ?_|refine Kp.ins rfl ?_))) ⟨hd',.inr ⟨g1,?_,?_,?_⟩⟩
   ·simp only[gen_leave,gen_put,gen_set,gen_setH]
    exact hgen2
   ·simp only[hob_leave,hob_put,hob_set,hob_setH,and_self,if_true]
    rw[insE_len hple]
   ·simp only[obj_leave,obj_put,obj_set,and_self,if_true]
    exact congrArg some hset
theorem sess_Set_end {m:Nat} {cs rs:List SV} (ht:t.length<=1048576) (hn:nameP t=true) (hp:PosAt es t es.length) (hl:es.length<16) (hm:m<=256)
  (hc:Go.Ev.Fn CX 24 [.sl m cs] (.sl m rs)) {tl:TV} (htl:tl = .sv (.sl m cs)\/(tl = .nil/\m=0/\cs=[])) (h:SessR st d g es D)
  (k : ∀st',Keep d st st'->SessR st' d g (es++[(t,m,rs)]) D->WO CX false ops l (st'.putO dst (.sv (.int .i64 0))) Q) :
  WN CX ops l dst st Q 9 [.ptr d g 0,.sv (.str (bs t)),tl]:=
 sess_Set_new ht hn hp (not_at es t) hl hm hc htl h fun st' hk hs=>k st' hk (by rw[insE_end]at hs;exact hs)
end
end Go.Proofs.YtjphnjffglapgaaGreatDoor
namespace Go.Proofs.YtjphnjffglapgaaGreatDoor
open Go.Ev
section
variable {ops:Array Oper} {l:List Oper} {dst:Option Nat} {st:St} {Q:St->Prop} {d g p:Nat} {es:List Ent} {t:List UInt8} {D:Int}
theorem sess_Let_end {x:List UInt8} {qs:List Rat} (ht:t.length<=1048576) (hn:nameP t=true) (hp:PosAt es t es.length) (hl:es.length<16) (hx:x.length<=100000) (hx2:parseP x=(0,qs)) (hm:qs.length<=256)
  (h:SessR st d g es D)
  (k : ∀st',Keep d st st'->SessR st' d g (es++[(t,qs.length,rvsC qs)]) D->WO CX false ops l (st'.putO dst (.sv (.int .i64 0))) Q) :
  WN CX ops l dst st Q 7 [.ptr d g 0,.sv (.str (bs t)),.sv (.str (bs x))]:=by
 have nm:=sess_Name t ht
 rw[hn]at nm
 have hP:=data_Parse x hx
 have hz : ∀q∈(parseP x).2,szR q 500:=parse_sz
 rw[hx2]at hP hz
 have hc:=sess_copied (rvsC_row (L:=500) qs hz) (by omega) (by omega) (by omega)
 have hd':2000000<=d:=h.ob
 have hpl:plV (.ptr d g 0)=true:=pl_ob h.ob
 refine wni Tryz.f7 ?_;unfold Tryz.f7;simp only[Option.get!_some]
 repeat (first|simp only[go_sem,hd',Bool.not_true]|simp (disch:=first|exact oa|fail) only[AX,hd',Bool.not_true]|refine wki ?_|refine wqn ?_|refine vf_of (by first|exact nm|exact hP) ?_)
 refine sess_Set_end ht hn hp hl hm hc (.inl rfl) (h.of rfl (fun _=>rfl) (Nat.le_refl _)) ?_
 intro s1 hk hs1
 repeat (first|simp only[go_sem]|simp (disch:=first|exact oa|fail) only[AX]|refine wki ?_|refine wqn ?_)
 exact k _ (keep_of (by repeat (first|exact Kp.refl|exact hk.kp|refine Kp.trans ?_ hk.kp|refine Kp.put ?_|refine Kp.setH ?_|refine Kp.newset ?_|refine Kp.set rfl ?_|refine Kp.set (by assumption) ?_|refine Kp.new ?_|refine Kp.grow rfl ?_|refine Kp.frzd rfl ?_|refine Kp.ins rfl ?_))) (hs1.of rfl (fun _=>rfl) (Nat.le_refl _))
theorem sess_Get_atS {rs:List SV} (hp:PosAt es t p) (hl:es.length<=100000) (hat:isAt es t p=true) (hc:Go.Ev.Fn CX 24 [.sl (es.getD p default).2.1 (es.getD p default).2.2] (.sl (es.getD p default).2.1 rs)) (h:SessR st d g es D)
  (k : ∀st',Same st st'->WO CX false ops l (st'.putO dst (.sv (.tup [.sl (es.getD p default).2.1 rs,.int .i64 0]))) Q) :
  WN CX ops l dst st Q 30 [.ptr d g 0,.sv (.str (bs t))]:=by
 have hd':2000000<=d:=h.ob
 have hpl:plV (.ptr d g 0)=true:=pl_ob h.ob
 refine wni Tryz.f30 ?_;unfold Tryz.f30;simp only[Option.get!_some]
 repeat (first|simp only[go_sem,hd']|simp (disch:=first|exact oa|fail) only[AX,hd']|refine wki ?_|refine wqn ?_)
 refine sess_atS hp hl (h.of rfl (fun _=>rfl) (Nat.le_refl _)) ?_
 intro s1 hk
 have k0:s1.tmp 0 = .ptr d g 0:=hk.tmp 0
 have hs1:SessR s1 d g es D:=h.of (by rw[hk.hob];rfl) (fun _=>(hk.obj _ _).trans rfl) (by rw[hk.gen];exact Nat.le_refl _)
 clear h
 obtain⟨_,hrow⟩:=hs1
 have hpl:p<es.length:=by
  unfold isAt at hat
  rw[Bool.and_eq_true]at hat
  exact of_decide_eq_true hat.1
 rcases hrow with⟨rfl,_⟩|⟨g1,hg1,ho,hobj⟩
 ·simp at hpl
 obtain⟨rest,hx⟩:=ent_at hpl
 have hx1:(entC es).drop (p*2+1) = .sl (es.getD p default).2.1 (es.getD p default).2.2::rest:=by
  rw[<- List.drop_drop,hx]
  rfl
 have hlen:=entC_len es
 repeat (first|simp only[go_sem,hd',k0,hat,ho,hobj,Bool.not_true,hlen,hx1,List.head?_cons]|simp (disch:=first|exact oa|fail) only[AX,hd',k0,hat,ho,hobj,Bool.not_true,hlen,hx1,List.head?_cons]|refine wki ?_|refine wqn ?_|refine vf_of (by first|exact hc) ?_)
 exact k _ (same_leave (vs:=[.ptr d g 0,.sv (.str (bs t))]) hk rfl rfl rfl rfl rfl rfl rfl rfl)
theorem sess_Get_at {rs:List SV} (hp:PosAt es t p) (hl:es.length<=100000) (hat:isAt es t p=true) (hc:Go.Ev.Fn CX 24 [.sl (es.getD p default).2.1 (es.getD p default).2.2] (.sl (es.getD p default).2.1 rs)) (h:SessR st d g es D)
  (k : ∀st',Keep d st st'->SessR st' d g es D->WO CX false ops l (st'.putO dst (.sv (.tup [.sl (es.getD p default).2.1 rs,.int .i64 0]))) Q) :
  WN CX ops l dst st Q 30 [.ptr d g 0,.sv (.str (bs t))]:=
 sess_Get_atS hp hl hat hc h fun s hs=>k s hs.keep (h.of (by rw[hs.hob]) (fun _=>hs.obj _ _) (by rw[hs.gen];exact Nat.le_refl _))
end
theorem known_parse22:parseP [49,32,50]=(0,[1,2]):=by kernel_rfl
theorem known_cells22:rvsC [1,2]=[.bool false,natV [1],natV [1],.bool false,natV [2],natV [1]]:=by kernel_rfl
theorem law22_known:Go.Ev.Fn CX 16 [] (.bool true):=by
 have hN:=sess_New
 have o:=ref2_Int 2 (by omega)
 have e5:(rv (((2:Int)):Rat):SV)=ratV false [2] [1]:=by kernel_rfl
 have r1:RatA (ratV false [2] [1]) 2 1:=⟨_,_,_,rfl,by simp[okL],by simp[okL],by decide,by decide,by decide⟩
 have sm:=ref2_Same r1 r1 (by omega) (by omega) (by omega)
 rw[decide_eq_true rfl]at sm
 rw[e5]at o
 refine fni Tryz.f16 ?_;unfold Tryz.f16;simp only[Option.get!_some]
 repeat (first|simp only[go_sem]|simp (disch:=first|exact oa|fail) only[AX]|refine wki ?_|refine wqn ?_|refine vpd 6 [] ?_)
 refine vf_heap hN ?_
 repeat (first|simp only[go_sem]|simp (disch:=first|exact oa|fail) only[AX]|refine wki ?_|refine wqn ?_|refine vpd 6 [] ?_)
 refine sess_Let_end (t:=[97]) (es:=[]) (x:=[49,32,50]) (qs:=[1,2]) (D:=6) (by decide) (by kernel_rfl) ⟨Nat.le_refl 0,fun k h=>absurd h (Nat.not_lt_zero k),fun k _ h=>absurd h (Nat.not_lt_zero k)⟩ (by decide) (by decide) known_parse22 (by decide) ⟨by decide,.inl ⟨rfl,rfl⟩⟩ ?_
 intro s1 hk hs1
 have k1:s1.tmp 1 = .ptr 2000005 1 0:=hk.tmp 1 rfl
 have k0:s1.tmp 0 = .sv (.bool false):=hk.tmp 0 rfl
 clear hk
 repeat (first|simp only[go_sem,k1]|simp (disch:=first|exact oa|fail) only[AX,k1]|refine wki ?_|refine wqn ?_|refine vpd 6 [] ?_)
 have hz : ∀q∈(parseP [49,32,50]).2,szR q 500:=parse_sz
 rw[known_parse22]at hz
 have hc:=sess_copied (rvsC_row (L:=500) [1,2] hz) (by omega) (by omega) (by decide)
 refine sess_Get_at (t:=[97]) (es:=[([97],2,rvsC [1,2])]) (p:=0) (rs:=rvsC [1,2]) (D:=6) ⟨by decide,fun k h=>absurd h (Nat.not_lt_zero k),fun k _ h => ?_⟩ (by decide) (by kernel_rfl) hc (hs1.of rfl (fun _=>rfl) (Nat.le_refl _)) ?_
 ·have:k=0:=by simpa using h
  subst this
  decide
 intro s2 hk2 hs2
 have j1:s2.tmp 1 = .ptr 2000005 1 0:=(hk2.tmp 1 (by simp only[tmp_put,k1,reduceIte,Nat.reduceEqDiff];rfl)).trans (by simp only[tmp_put,k1,reduceIte,Nat.reduceEqDiff])
 have j2:s2.tmp 2 = .sv (.int .i64 0):=hk2.tmp 2 rfl
 have ec:rvsC [1,2]=[.bool false,natV [1],natV [1],.bool false,natV [2],natV [1]]:=known_cells22
 have hob : ∃te,s2.hob 2000005 1=some [te,.sv (.int .i64 6)]:=by
  rcases hs2.row with⟨h,_⟩|⟨g1,_,h,_⟩
  ·cases h
  ·exact⟨_,h⟩
 obtain⟨te,hob⟩:=hob
 clear hk2 hs2
 repeat (first|simp only[go_sem,j1,j2,ec,hob,List.getD_cons_zero,List.drop_succ_cons,List.drop_zero,List.head?_cons]|simp (disch:=first|exact oa|fail) only[AX,j1,j2,ec,hob,List.getD_cons_zero,List.drop_succ_cons,List.drop_zero,List.head?_cons]|refine wki ?_|refine wqn ?_|refine vpd 6 [] ?_|refine vf_of (by first|exact o|exact sm) ?_)
 refine wli Tryz.f29 (.int .i64 6) ?_ ?_
 ·unfold Tryz.f29
  simp only[Option.get!_some]
  simp only[go_sem,hob]
 simp only[go_sem]
 rfl
end Go.Proofs.YtjphnjffglapgaaGreatDoor
namespace Go.Proofs.YtjphnjffglapgaaGreatDoor
open Go.Ev
section
variable {ops:Array Oper} {l:List Oper} {dst:Option Nat} {st:St} {Q:St->Prop} {d g p:Nat} {es:List Ent} {t:List UInt8} {D:Int}
theorem sess_Set_full {m:Nat} {cs:List SV} (ht:t.length<=1048576) (hn:nameP t=true) (hp:PosAt es t p) (hl:es.length<=100000) (h16:16<=es.length) (hat:isAt es t p=false) {tl:TV} (htl:tl = .sv (.sl m cs)\/(tl = .nil/\m=0/\cs=[])) (h:SessR st d g es D)
  (k : ∀st',Keep d st st'->SessR st' d g es D->WO CX false ops l (st'.putO dst (.sv (.int .i64 7))) Q) :
  WN CX ops l dst st Q 9 [.ptr d g 0,.sv (.str (bs t)),tl]:=by
 have nm:=sess_Name t ht
 rw[hn]at nm
 have hd':2000000<=d:=h.ob
 have hpt:plV tl=true:=by rcases htl with rfl|⟨rfl,_,_⟩<;>rfl
 have hpl:plV (.ptr d g 0)=true:=pl_ob h.ob
 refine wni Tryz.f9 ?_;unfold Tryz.f9;simp only[Option.get!_some]
 repeat (first|simp only[go_sem,hd',Bool.not_true]|simp (disch:=first|exact oa|fail) only[AX,hd',Bool.not_true]|refine wki ?_|refine wqn ?_|refine vpd 10 [2] ?_|refine vf_of (by first|exact nm) ?_)
 refine sess_at hp hl (h.of rfl (fun _=>rfl) (Nat.le_refl _)) ?_
 intro s1 hk hs1
 have k0:s1.tmp 0 = .ptr d g 0:=hk.tmp 0 hpl
 have k2:s1.tmp 2=tl:=hk.tmp 2 hpt
 have hu:=hk.kp
 clear hk h
 have hm:256<m \/ ¬256<m:=by omega
 rcases htl with rfl|⟨rfl,rfl,rfl⟩
 all_goals
  have hs:=hs1
  obtain⟨_,hrow⟩:=hs1
  rcases hrow with⟨rfl,ho⟩|⟨g1,hg1,ho,hobj⟩
  ·simp at h16
  rcases hm with hm|hm
  ·repeat (first|simp only[go_sem,hd',k0,k2,hat,ho,hobj,Bool.not_true,Bool.not_false]|simp (disch:=first|exact oa|fail) only[AX,hd',k0,k2,hat,ho,hobj,Bool.not_true,Bool.not_false]|refine wki ?_|refine wqn ?_|refine vpd 10 [2] ?_)
   exact k _ (keep_of (by repeat (first|exact Kp.refl|exact hu|refine Kp.trans ?_ hu|refine Kp.put ?_|refine Kp.setH ?_|refine Kp.newset ?_|refine Kp.set rfl ?_|refine Kp.set (by assumption) ?_|refine Kp.new ?_|refine Kp.grow rfl ?_|refine Kp.frzd rfl ?_|refine Kp.ins rfl ?_))) (hs.of rfl (fun _=>rfl) (Nat.le_refl _))
  ·repeat (first|simp only[go_sem,hd',k0,k2,hat,ho,hobj,Bool.not_true,Bool.not_false]|simp (disch:=first|exact oa|fail) only[AX,hd',k0,k2,hat,ho,hobj,Bool.not_true,Bool.not_false]|refine wki ?_|refine wqn ?_|refine vpd 10 [2] ?_)
   exact k _ (keep_of (by repeat (first|exact Kp.refl|exact hu|refine Kp.trans ?_ hu|refine Kp.put ?_|refine Kp.setH ?_|refine Kp.newset ?_|refine Kp.set rfl ?_|refine Kp.set (by assumption) ?_|refine Kp.new ?_|refine Kp.grow rfl ?_|refine Kp.frzd rfl ?_|refine Kp.ins rfl ?_))) (hs.of rfl (fun _=>rfl) (Nat.le_refl _))
def namC (es:List Ent):List SV:=es.map fun e => .str (bs e.1)
theorem namC_snoc {es:List Ent} {i:Nat} (h:i<es.length):namC (es.take i)++[.str (bs (es.getD i default).1)]=namC (es.take (i+1)):=by
 unfold namC
 rw[List.take_add_one,List.map_append,List.getElem?_eq_getElem h]
 simp[List.getD_eq_getElem?_getD,List.getElem?_eq_getElem h]
theorem namC_len (es:List Ent):(namC es).length=es.length:=by unfold namC;rw[List.length_map]
theorem sess_Names (hl:es.length<=100000) (h:SessR st d g es D)
  (k : ∀st' tv,Keep d st st'->SessR st' d g es D->((es=[]/\tv = .nil) \/ ∃g',0<es.length/\tv = .ref 21 g' 1 0 es.length/\st'.obj 21 g'=some (namC es))->WO CX false ops l (st'.putO dst tv) Q) :
  WN CX ops l dst st Q 28 [.ptr d g 0]:=by
 have hd':2000000<=d:=h.ob
 have hs0:=h
 obtain⟨hd,hrow⟩:=h
 rcases hrow with⟨rfl,ho⟩|⟨g1,hg1,ho,hobj⟩
 ·refine wni Tryz.f28 ?_;unfold Tryz.f28;simp only[Option.get!_some]
  repeat (first|simp only[go_sem,hd',ho]|simp (disch:=first|exact oa|fail) only[AX,hd',ho]|refine wki ?_|refine wqn ?_)
  refine vp_loop_fam (fun n s=>n=0/\s.tmp 12 = .sv (.int .i64 0)/\s.tmp 13 = .sv (.int .i64 0)/\s.tmp 3 = .nil/\Kp TP d (st.enter [.ptr d g 0]) s/\s.hob=st.hob/\s.obj=st.obj/\s.gen=st.gen) 0 ⟨rfl,rfl,rfl,rfl,(by repeat (first|exact Kp.refl|refine Kp.put ?_|refine Kp.setH ?_|refine Kp.newset ?_|refine Kp.set rfl ?_|refine Kp.set (by assumption) ?_|refine Kp.new ?_|refine Kp.grow rfl ?_|refine Kp.frzd rfl ?_|refine Kp.ins rfl ?_)),rfl,rfl,rfl⟩ ?_
  rintro n s ⟨-,i12,i13,i3,hup,hhob,hob,hgen⟩
  repeat (first|simp only[go_sem,i12,i13,i3]|simp (disch:=first|exact oa|fail) only[AX,i12,i13,i3]|refine wki ?_|refine wqn ?_)
  exact k _ _ (keep_of (by repeat (first|exact Kp.refl|exact hup|refine Kp.trans ?_ hup|refine Kp.put ?_|refine Kp.setH ?_|refine Kp.newset ?_|refine Kp.set rfl ?_|refine Kp.set (by assumption) ?_|refine Kp.new ?_|refine Kp.grow rfl ?_|refine Kp.frzd rfl ?_|refine Kp.ins rfl ?_))) (hs0.of (by simp only[hob_leave,hob_put];rw[hhob]) (fun _=>by simp only[obj_leave,obj_put];rw[hob]) (by simp only[gen_leave,gen_put];rw[hgen];exact Nat.le_refl _)) (.inl ⟨rfl,rfl⟩)
 ·have hlen:=entC_len es
  refine wni Tryz.f28 ?_;unfold Tryz.f28;simp only[Option.get!_some]
  repeat (first|simp only[go_sem,hd',ho]|simp (disch:=first|exact oa|fail) only[AX,hd',ho]|refine wki ?_|refine wqn ?_)
  refine vp_loop_inv (fun s=>s.tmp 11 = .ref 25 g1 2 0 es.length/\s.tmp 12 = .sv (.int .i64 (es.length:Int))/\s.obj 25 g1=some (entC es)/\s.hob d g=some [.ref 25 g1 2 0 es.length,.sv (.int .i64 D)]/\st.gen 25<=s.gen 25/\Kp TP d (st.enter [.ptr d g 0]) s /\
    ∃i:Nat,s.tmp 13 = .sv (.int .i64 (i:Int))/\i<=es.length/\((i=0/\s.tmp 3 = .nil) \/ ∃g3,0<i/\s.tmp 3 = .ref 21 g3 1 0 i/\s.obj 21 g3=some (namC (es.take i))))
   (fun s=>match s.tmp 13 with | .sv (.int _ i)=>es.length-i.toNat|_=>0) ?_ ?_
  ·exact⟨rfl,rfl,hobj,ho,Nat.le_refl _,(by repeat (first|exact Kp.refl|refine Kp.put ?_|refine Kp.setH ?_|refine Kp.newset ?_|refine Kp.set rfl ?_|refine Kp.set (by assumption) ?_|refine Kp.new ?_|refine Kp.grow rfl ?_|refine Kp.frzd rfl ?_|refine Kp.ins rfl ?_)),0,rfl,by omega,.inl ⟨rfl,rfl⟩⟩
  rintro s ⟨i11,i12,iO,iH,iG,iU,i,i13,hi,hcase⟩
  by_cases hend:i=es.length
  ·subst hend
   rcases hcase with⟨h0,i3⟩|⟨g3,h0,i3,iN⟩
   ·have e0:es=[]:=List.eq_nil_of_length_eq_zero h0
    repeat (first|simp only[go_sem,i11,i12,iO,i13,i3]|simp (disch:=first|exact oa|fail) only[AX,i11,i12,iO,i13,i3]|refine wki ?_|refine wqn ?_)
    exact k _ _ (keep_of (by repeat (first|exact Kp.refl|exact iU|refine Kp.trans ?_ iU|refine Kp.put ?_|refine Kp.setH ?_|refine Kp.newset ?_|refine Kp.set rfl ?_|refine Kp.set (by assumption) ?_|refine Kp.new ?_|refine Kp.grow rfl ?_|refine Kp.frzd rfl ?_|refine Kp.ins rfl ?_))) ⟨hd',.inr ⟨g1,Nat.lt_of_lt_of_le hg1 iG,iH,iO⟩⟩ (.inl ⟨e0,rfl⟩)
   rw[List.take_length]at iN
   repeat (first|simp only[go_sem,i11,i12,iO,i13,i3]|simp (disch:=first|exact oa|fail) only[AX,i11,i12,iO,i13,i3]|refine wki ?_|refine wqn ?_)
   exact k _ _ (keep_of (by repeat (first|exact Kp.refl|exact iU|refine Kp.trans ?_ iU|refine Kp.put ?_|refine Kp.setH ?_|refine Kp.newset ?_|refine Kp.set rfl ?_|refine Kp.set (by assumption) ?_|refine Kp.new ?_|refine Kp.grow rfl ?_|refine Kp.frzd rfl ?_|refine Kp.ins rfl ?_))) ⟨hd',.inr ⟨g1,Nat.lt_of_lt_of_le hg1 iG,iH,iO⟩⟩ (.inr ⟨g3,h0,rfl,iN⟩)
  ·obtain⟨rest,hat⟩:=ent_at (es:=es) (k:=i) (by omega)
   have hsn:=namC_snoc (es:=es) (i:=i) (by omega)
   have hnl:=namC_len (es.take i)
   rw[List.length_take,Nat.min_eq_left (by omega)]at hnl
   rcases hcase with⟨h0,i3⟩|⟨g3,h0,i3,iN⟩
   ·subst h0
    rw[Nat.zero_mul,List.drop_zero]at hat
    repeat (first|simp only[go_sem,i11,i12,iO,i13,i3,hlen,hat]|simp (disch:=first|exact oa|fail) only[AX,i11,i12,iO,i13,i3,hlen,hat]|refine wki ?_|refine wqn ?_)
    exact⟨⟨iH,iG,(by repeat (first|exact Kp.refl|exact iU|refine Kp.trans ?_ iU|refine Kp.put ?_|refine Kp.setH ?_|refine Kp.newset ?_|refine Kp.set rfl ?_|refine Kp.set (by assumption) ?_|refine Kp.new ?_|refine Kp.grow rfl ?_|refine Kp.frzd rfl ?_|refine Kp.ins rfl ?_)),1,rfl,by omega,.inr ⟨s.gen 21,by omega,rfl,by rw[if_pos rfl,<- hsn];rfl⟩⟩,by omega⟩
   ·repeat (first|simp only[go_sem,i11,i12,iO,i13,i3,iN,hlen,hat,N0,hnl]|simp (disch:=first|exact oa|fail) only[AX,i11,i12,iO,i13,i3,iN,hlen,hat,N0,hnl]|refine wki ?_|refine wqn ?_)
    refine⟨⟨?_,iG,(by repeat (first|exact Kp.refl|exact iU|refine Kp.trans ?_ iU|refine Kp.put ?_|refine Kp.setH ?_|refine Kp.newset ?_|refine Kp.set rfl ?_|refine Kp.set (by assumption) ?_|refine Kp.new ?_|refine Kp.grow rfl ?_|refine Kp.frzd rfl ?_|refine Kp.ins rfl ?_)),i+1,rfl,by omega,.inr ⟨g3,by omega,rfl,?_⟩⟩,by omega⟩
    ·rw[iH]
     rfl
    ·rw[if_pos rfl,hsn]
end
end Go.Proofs.YtjphnjffglapgaaGreatDoor
namespace Go.Proofs.YtjphnjffglapgaaGreatDoor
open Go.Ev
section
variable {ops:Array Oper} {l:List Oper} {dst:Option Nat} {st:St} {Q:St->Prop} {d g p:Nat} {es:List Ent} {t:List UInt8} {D:Int}
theorem sess_Drop_at (hp:PosAt es t p) (hl:es.length<=100000) (hat:isAt es t p=true) (h:SessR st d g es D)
  (k : ∀st',Keep d st st'->SessR st' d g (es.take p++es.drop (p+1)) D->WO CX false ops l (st'.putO dst (.sv (.int .i64 0))) Q) :
  WN CX ops l dst st Q 11 [.ptr d g 0,.sv (.str (bs t))]:=by
 have hd':2000000<=d:=h.ob
 have hpl:plV (.ptr d g 0)=true:=pl_ob h.ob
 refine wni Tryz.f11 ?_;unfold Tryz.f11;simp only[Option.get!_some]
 repeat (first|simp only[go_sem,hd']|simp (disch:=first|exact oa|fail) only[AX,hd']|refine wki ?_|refine wqn ?_)
 refine sess_at hp hl (h.of rfl (fun _=>rfl) (Nat.le_refl _)) ?_
 intro s1 hk hs1
 have k0:s1.tmp 0 = .ptr d g 0:=hk.tmp 0 hpl
 have hu:=hk.kp
 clear hk h
 have hlt:p<es.length:=by
  unfold isAt at hat
  rw[Bool.and_eq_true]at hat
  exact of_decide_eq_true hat.1
 obtain⟨_,hrow⟩:=hs1
 rcases hrow with⟨rfl,_⟩|⟨g1,hg1,ho,hobj⟩
 ·simp at hlt
 repeat (first|simp only[go_sem,hd',k0,hat,ho,hobj,Bool.not_true]|simp (disch:=first|exact oa|fail) only[AX,hd',k0,hat,ho,hobj,Bool.not_true]|refine wki ?_|refine wqn ?_)
 refine sess_delete (d:=d) hlt hl ?_ ?_
 ·simp only[obj_put]
  exact hobj
 intro s2 hk2 hg2 hobj2 hhob2
 have j17:s2.tmp 17 = .ptr d g 0:=(hk2.tmp 17 hpl).trans rfl
 have hob2:s2.hob d g=some [.undef,.sv (.int .i64 D)]:=by
  rw[hhob2]
  simp only[hob_put]
  rw[ho]
  simp only[Option.map_some,List.map_cons,List.map_nil,TV.kill,and_self,if_true]
 have hgen2:g1<s2.gen 25:=Nat.lt_of_lt_of_le hg1 (by simpa only[gen_put]using hg2)
 have hu2:=hk2.kp
 clear hk2 hhob2 k0
 repeat (first|simp only[go_sem,hd',j17,hob2,hobj2]|simp (disch:=first|exact oa|fail) only[AX,hd',j17,hob2,hobj2]|refine wki ?_|refine wqn ?_)
 refine k _ (keep_of (by repeat (first|exact Kp.refl|exact hu2|exact hu|refine Kp.trans ?_ hu2|refine Kp.trans ?_ hu|refine Kp.put ?_|refine Kp.setH ?_|refine Kp.newset ?_|refine Kp.set rfl ?_|refine Kp.set (by assumption) ?_|refine Kp.new ?_|refine Kp.grow rfl ?_|refine Kp.frzd rfl ?_|refine Kp.ins rfl ?_))) ⟨hd',.inr ⟨g1,?_,?_,?_⟩⟩
 ·simp only[gen_leave,gen_put,gen_setH]
  exact hgen2
 ·simp only[hob_leave,hob_put,hob_setH,and_self,if_true]
  rw[List.length_append,List.length_take,List.length_drop,Nat.min_eq_left (by omega),show p+(es.length-(p+1))=es.length-1 by omega]
 ·simp only[obj_leave,obj_put,obj_setH]
  exact hobj2
theorem sess_Drop_none (hp:PosAt es t p) (hl:es.length<=100000) (hat:isAt es t p=false) (h:SessR st d g es D)
  (k : ∀st',Keep d st st'->SessR st' d g es D->WO CX false ops l (st'.putO dst (.sv (.int .i64 6))) Q) :
  WN CX ops l dst st Q 11 [.ptr d g 0,.sv (.str (bs t))]:=by
 have hd':2000000<=d:=h.ob
 have hpl:plV (.ptr d g 0)=true:=pl_ob h.ob
 refine wni Tryz.f11 ?_;unfold Tryz.f11;simp only[Option.get!_some]
 repeat (first|simp only[go_sem,hd']|simp (disch:=first|exact oa|fail) only[AX,hd']|refine wki ?_|refine wqn ?_)
 refine sess_at hp hl (h.of rfl (fun _=>rfl) (Nat.le_refl _)) ?_
 intro s1 hk hs1
 have k0:s1.tmp 0 = .ptr d g 0:=hk.tmp 0 hpl
 have hu:=hk.kp
 clear hk h
 repeat (first|simp only[go_sem,hd',k0,hat,Bool.not_false]|simp (disch:=first|exact oa|fail) only[AX,hd',k0,hat,Bool.not_false]|refine wki ?_|refine wqn ?_)
 exact k _ (keep_of (by repeat (first|exact Kp.refl|exact hu|refine Kp.trans ?_ hu|refine Kp.put ?_|refine Kp.setH ?_|refine Kp.newset ?_|refine Kp.set rfl ?_|refine Kp.set (by assumption) ?_|refine Kp.new ?_|refine Kp.grow rfl ?_|refine Kp.frzd rfl ?_|refine Kp.ins rfl ?_))) (hs1.of rfl (fun _=>rfl) (Nat.le_refl _))
theorem sess_Set_name {tl:TV} (ht:t.length<=1048576) (hn:nameP t=false) (h:SessR st d g es D)
  (k : ∀st',Keep d st st'->SessR st' d g es D->WO CX false ops l (st'.putO dst (.sv (.int .i64 6))) Q) :
  WN CX ops l dst st Q 9 [.ptr d g 0,.sv (.str (bs t)),tl]:=by
 have nm:=sess_Name t ht
 rw[hn]at nm
 have hd':2000000<=d:=h.ob
 refine wni Tryz.f9 ?_;unfold Tryz.f9;simp only[Option.get!_some]
 repeat (first|simp only[go_sem,hd',Bool.not_false]|simp (disch:=first|exact oa|fail) only[AX,hd',Bool.not_false]|refine wki ?_|refine wqn ?_|refine vpd 10 [2] ?_|refine vf_of (by first|exact nm) ?_)
 exact k _ (keep_of (by repeat (first|exact Kp.refl|refine Kp.put ?_|refine Kp.setH ?_|refine Kp.newset ?_|refine Kp.set rfl ?_|refine Kp.set (by assumption) ?_|refine Kp.new ?_|refine Kp.grow rfl ?_|refine Kp.frzd rfl ?_|refine Kp.ins rfl ?_))) (h.of rfl (fun _=>rfl) (Nat.le_refl _))
theorem sess_Let_name {x:List UInt8} (ht:t.length<=1048576) (hn:nameP t=false) (h:SessR st d g es D)
  (k : ∀st',Keep d st st'->SessR st' d g es D->WO CX false ops l (st'.putO dst (.sv (.int .i64 6))) Q) :
  WN CX ops l dst st Q 7 [.ptr d g 0,.sv (.str (bs t)),.sv (.str (bs x))]:=by
 have nm:=sess_Name t ht
 rw[hn]at nm
 have hd':2000000<=d:=h.ob
 refine wni Tryz.f7 ?_;unfold Tryz.f7;simp only[Option.get!_some]
 repeat (first|simp only[go_sem,hd',Bool.not_false]|simp (disch:=first|exact oa|fail) only[AX,hd',Bool.not_false]|refine wki ?_|refine wqn ?_|refine vf_of (by first|exact nm) ?_)
 exact k _ (keep_of (by repeat (first|exact Kp.refl|refine Kp.put ?_|refine Kp.setH ?_|refine Kp.newset ?_|refine Kp.set rfl ?_|refine Kp.set (by assumption) ?_|refine Kp.new ?_|refine Kp.grow rfl ?_|refine Kp.frzd rfl ?_|refine Kp.ins rfl ?_))) (h.of rfl (fun _=>rfl) (Nat.le_refl _))
theorem sess_Set_long {m:Nat} {cs:List SV} (ht:t.length<=1048576) (hn:nameP t=true) (hp:PosAt es t p) (hl:es.length<=100000) (hm:256<m) (h:SessR st d g es D)
  (k : ∀st',Keep d st st'->SessR st' d g es D->WO CX false ops l (st'.putO dst (.sv (.int .i64 7))) Q) :
  WN CX ops l dst st Q 9 [.ptr d g 0,.sv (.str (bs t)),.sv (.sl m cs)]:=by
 have nm:=sess_Name t ht
 rw[hn]at nm
 have hd':2000000<=d:=h.ob
 have hpl:plV (.ptr d g 0)=true:=pl_ob h.ob
 refine wni Tryz.f9 ?_;unfold Tryz.f9;simp only[Option.get!_some]
 repeat (first|simp only[go_sem,hd',Bool.not_true]|simp (disch:=first|exact oa|fail) only[AX,hd',Bool.not_true]|refine wki ?_|refine wqn ?_|refine vpd 10 [2] ?_|refine vf_of (by first|exact nm) ?_)
 refine sess_at hp hl (h.of rfl (fun _=>rfl) (Nat.le_refl _)) ?_
 intro s1 hk hs1
 have k0:s1.tmp 0 = .ptr d g 0:=hk.tmp 0 hpl
 have k2:s1.tmp 2 = .sv (.sl m cs):=hk.tmp 2 rfl
 have hu:=hk.kp
 clear hk h
 have hs:=hs1
 obtain⟨_,hrow⟩:=hs1
 generalize isAt es t p=b at *
 rcases hrow with⟨rfl,ho⟩|⟨g1,hg1,ho,hobj⟩
 all_goals
  cases b
  all_goals
   repeat (first|simp only[go_sem,hd',k0,k2,ho,Bool.not_true,Bool.not_false]|simp (disch:=first|exact oa|fail) only[AX,hd',k0,k2,ho,Bool.not_true,Bool.not_false]|refine wki ?_|refine wqn ?_|refine vpd 10 [2] ?_)
   exact k _ (keep_of (by repeat (first|exact Kp.refl|exact hu|refine Kp.trans ?_ hu|refine Kp.put ?_|refine Kp.setH ?_|refine Kp.newset ?_|refine Kp.set rfl ?_|refine Kp.set (by assumption) ?_|refine Kp.new ?_|refine Kp.grow rfl ?_|refine Kp.frzd rfl ?_|refine Kp.ins rfl ?_))) (hs.of rfl (fun _=>rfl) (Nat.le_refl _))
end
end Go.Proofs.YtjphnjffglapgaaGreatDoor
namespace Go.Proofs.YtjphnjffglapgaaGreatDoor
open Go.Ev
structure ActI where
 k:Int
 t:List UInt8
 x:List UInt8
 ps:List InR
 n:Int
 deriving Inhabited
def ActI.cells (a:ActI):List SV:=[.int .i64 a.k,.str (bs a.t),.str (bs a.x),rowV a.ps,.int .i64 a.n]
def actsC (acs:List ActI):List SV:=acs.flatMap ActI.cells
theorem actsC_cons (a:ActI) (acs:List ActI):actsC (a::acs)=a.cells++actsC acs:=by unfold actsC;simp
theorem actsC_len : ∀acs:List ActI,(actsC acs).length=acs.length*5
 | []=>rfl
 |a::acs=>by rw[actsC_cons,List.length_append,actsC_len acs,List.length_cons,show a.cells.length=5 from rfl];omega
theorem act_at : ∀ {acs:List ActI} {i:Nat},i<acs.length -> ∃rest,(actsC acs).drop (i*5) = .int .i64 (acs.getD i default).k :: .str (bs (acs.getD i default).t) :: .str (bs (acs.getD i default).x)::rowV (acs.getD i default).ps :: .int .i64 (acs.getD i default).n::rest
 |a::acs,0,_=>⟨actsC acs,by rw[Nat.zero_mul,List.drop_zero,actsC_cons];rfl⟩
 |a::acs,i+1,h=>by
  obtain⟨rest,hr⟩:=act_at (acs:=acs) (i:=i) (by simpa using h)
  refine⟨rest,?_⟩
  rw[actsC_cons,show (i+1)*5=5+i*5 by omega,<- List.drop_drop,show List.drop 5 (a.cells++actsC acs)=actsC acs from rfl,hr]
  rfl
theorem u_acts:Tryz.prog.underlying 22=some (.slice 35):=by kernel_rfl
theorem u_strg:Tryz.prog.underlying 9=some .string:=by kernel_rfl
theorem ts_act:fieldTs Tryz.prog 35=[3,9,9,33,3]:=by kernel_rfl
theorem shp_str {n:Nat} {ss:List SV} (h:ShpT Tryz.prog (n+1) 9 ss) : ∃t:List UInt8,ss=[.str (bs t)]:=by
 unfold ShpT at h
 rw[u_strg]at h
 obtain⟨s,rfl,_⟩:=h
 exact⟨s.data.toList,by rw[bs_data]⟩
theorem shp_act {n:Nat} {ss:List SV} (h:ShpT Tryz.prog (n+5) 35 ss) : ∃a:ActI,ss=a.cells/\a.ps.length<=maxLen /\ ∀p∈a.ps,p.ok:=by
 obtain⟨parts,rfl,hl,hp⟩:=shp_struct ts_act (by simp) h
 obtain⟨a,b,c,d,e,rfl⟩:=len_five hl
 obtain⟨k,rfl,_⟩:=shp_int (hp 0 _ a rfl rfl)
 obtain⟨t,rfl⟩:=shp_str (hp 1 _ b rfl rfl)
 obtain⟨x,rfl⟩:=shp_str (hp 2 _ c rfl rfl)
 obtain⟨ps,rfl,h1,h2⟩:=shp_rats (hp 3 _ d rfl rfl)
 obtain⟨m,rfl,_⟩:=shp_int (hp 4 _ e rfl rfl)
 exact⟨⟨k,t,x,ps,m⟩,rfl,h1,h2⟩
theorem shp_acts_all {n:Nat} : ∀l:List (List SV),(∀x∈l,ShpT Tryz.prog (n+5) 35 x) -> ∃acs:List ActI,l.flatten=actsC acs/\l.length=acs.length /\ ∀a∈acs,a.ps.length<=maxLen /\ ∀p∈a.ps,p.ok:=by
 intro l
 induction l with
 |nil=>intro _;exact⟨[],rfl,rfl,fun p hp=>by cases hp⟩
 |cons x l ih=>
  intro hx
  obtain⟨acs,h1,h2,h3⟩:=ih fun y hy=>hx y (List.mem_cons_of_mem _ hy)
  obtain⟨a,rfl,h4,h5⟩:=shp_act (hx x List.mem_cons_self)
  refine⟨a::acs,by rw[List.flatten_cons,h1,actsC_cons],by simp[h2],fun p hp => ?_⟩
  rcases List.mem_cons.1 hp with rfl|hp
  ·exact⟨h4,h5⟩
  ·exact h3 p hp
theorem shp_acts {n:Nat} {ss:List SV} (h:ShpT Tryz.prog (n+6) 22 ss) : ∃acs:List ActI,ss=[.sl acs.length (actsC acs)]/\acs.length<=maxLen /\ ∀a∈acs,a.ps.length<=maxLen /\ ∀p∈a.ps,p.ok:=by
 unfold ShpT at h
 rw[u_acts]at h
 obtain⟨elems,rfl,hl,he⟩:=h
 obtain⟨acs,h1,h2,h3⟩:=shp_acts_all elems he
 exact⟨acs,by rw[h1,h2],h2▸hl,h3⟩
def noS:InR:=(false,[],[])
theorem ratsC_atS : ∀ {ps:List InR} {k:Nat},k<ps.length -> ∃rest,(ratsC ps).drop (k*3) = .bool (ps.getD k noS).1::natV (ps.getD k noS).2.1::natV (ps.getD k noS).2.2::rest
 | [],_,h=>by simp at h
 |p::ps,0,_=>⟨_,rfl⟩
 |p::ps,k+1,h=>by
  obtain⟨r,this⟩:=ratsC_atS (ps:=ps) (k:=k) (by simpa using h)
  refine⟨r,?_⟩
  rw[ratsC_cons]
  have e : ∀j,(SV.bool p.1::natV p.2.1::natV p.2.2::ratsC ps).drop (j+3)=(ratsC ps).drop j:=fun _=>rfl
  rw[show (k+1)*3=k*3+3 by omega,e,this]
  rfl
def big3 (p:InR):Bool:=decide (3<p.2.1.length)||decide (3<p.2.2.length)
theorem any_takeS {α:Type} (f:α->Bool) (l:List α) (d:α) {i:Nat} (h:i<l.length):(l.take (i+1)).any f=((l.take i).any f||f (l.getD i d)):=by
 rw[List.take_add_one,List.any_append,List.getElem?_eq_getElem h,List.getD_eq_getElem?_getD,List.getElem?_eq_getElem h]
 simp
theorem any_of_getDS {α:Type} (f:α->Bool) (l:List α) (d:α) {i:Nat} (h:i<l.length) (hf:f (l.getD i d)=true):l.any f=true:=by
 refine List.any_eq_true.2 ⟨l.getD i d,?_,hf⟩
 rw[List.getD_eq_getElem?_getD,List.getElem?_eq_getElem h]
 exact List.getElem_mem h
theorem big3_row {ps:List InR} (h:ps.any big3=false) (hok : ∀p∈ps,p.ok):RowC (ratsC ps) (ps.map InR.q) 3:=by
 refine ratsC_row ps fun p hp=>⟨hok p hp,?_⟩
 have h2:=List.any_eq_false.1 h p hp
 unfold big3 at h2
 have h3:(decide (3<p.2.1.length)||decide (3<p.2.2.length))=false:=by simpa using h2
 rw[Bool.or_eq_false_iff]at h3
 have h4:=of_decide_eq_false h3.1
 have h5:=of_decide_eq_false h3.2
 omega
theorem law22_big (ps:List InR) (hl:ps.length<=1099511627776):Go.Ev.Fn CX 17 [.sl ps.length (ratsC ps)] (.bool (ps.any big3)):=by
 have hlen:=ratsC_len ps
 refine fni Tryz.f17 ?_;unfold Tryz.f17;simp only[Option.get!_some]
 repeat (first|simp only[go_sem]|simp (disch:=first|exact oa|fail) only[AX]|refine wki ?_|refine wqn ?_)
 refine vp_loop_inv (fun s=>s.tmp 0 = .sv (.sl ps.length (ratsC ps)) /\ ∃k:Nat,s.tmp 3 = .sv (.int .i64 (k:Int))/\k<=ps.length/\(ps.take k).any big3=false)
  (fun s=>match s.tmp 3 with | .sv (.int _ i)=>ps.length-i.toNat|_=>0) ⟨rfl,0,rfl,by omega,rfl⟩ ?_
 rintro s ⟨i0,k,i3,hk,hb⟩
 by_cases hend:k=ps.length
 ·subst hend
  rw[List.take_length]at hb
  rw[hb]
  repeat (first|simp only[go_sem,i0,i3]|simp (disch:=first|exact oa|fail) only[AX,i0,i3]|refine wki ?_|refine wqn ?_)
 ·obtain⟨rest,g1⟩:=ratsC_atS (ps:=ps) (k:=k) (by omega)
  have gor:=any_takeS big3 ps noS (i:=k) (by omega)
  have gtr:=any_of_getDS big3 ps noS (i:=k) (by omega)
  rw[hb,Bool.false_or]at gor
  generalize hp:ps.getD k noS=p at *
  obtain⟨s,n,d⟩:=p
  simp only at g1
  by_cases c1:3<n.length
  ·rw[gtr (by unfold big3;rw[decide_eq_true c1];rfl)]
   clear gtr gor
   repeat (first|simp only[go_sem,i0,i3,g1,hlen,List.drop_succ_cons,List.drop_zero,List.head?_cons]|simp (disch:=first|exact oa|fail) only[AX,i0,i3,g1,hlen,List.drop_succ_cons,List.drop_zero,List.head?_cons]|refine wki ?_|refine wqn ?_)
  ·by_cases c2:3<d.length
   ·rw[gtr (by unfold big3;rw[decide_eq_true c2,Bool.or_true])]
    clear gtr gor
    repeat (first|simp only[go_sem,i0,i3,g1,hlen,List.drop_succ_cons,List.drop_zero,List.head?_cons]|simp (disch:=first|exact oa|fail) only[AX,i0,i3,g1,hlen,List.drop_succ_cons,List.drop_zero,List.head?_cons]|refine wki ?_|refine wqn ?_)
   ·have hbn:big3 (s,n,d)=false:=by unfold big3;rw[decide_eq_false c1,decide_eq_false c2];rfl
    rw[hbn]at gor
    clear gtr hbn
    repeat (first|simp only[go_sem,i0,i3,g1,hlen,List.drop_succ_cons,List.drop_zero,List.head?_cons]|simp (disch:=first|exact oa|fail) only[AX,i0,i3,g1,hlen,List.drop_succ_cons,List.drop_zero,List.head?_cons]|refine wki ?_|refine wqn ?_)
    exact⟨⟨k+1,rfl,by omega,gor⟩,by omega⟩
def longA (a:ActI):Bool:=decide (60<a.t.length)||(decide (300<a.x.length)||(decide (300<a.ps.length)||a.ps.any big3))
theorem law22_long (acs:List ActI) :
  Go.Ev.Fn CX 4 [.sl acs.length (actsC acs)] (.bool ((acs.take 60).any longA)):=by
 have hlen:=actsC_len acs
 refine fni Tryz.f4 ?_;unfold Tryz.f4;simp only[Option.get!_some]
 repeat (first|simp only[go_sem]|simp (disch:=first|exact oa|fail) only[AX]|refine wki ?_|refine wqn ?_)
 refine vp_loop_inv (fun s=>s.tmp 0 = .sv (.sl acs.length (actsC acs)) /\ ∃k:Nat,s.tmp 3 = .sv (.int .i64 (k:Int))/\k<=acs.length/\k<=60/\(acs.take k).any longA=false)
  (fun s=>match s.tmp 3 with | .sv (.int _ i)=>acs.length-i.toNat|_=>0) ⟨rfl,0,rfl,by omega,by omega,rfl⟩ ?_
 rintro s ⟨i0,k,i3,hk,hk60,hb⟩
 by_cases hend:k=acs.length
 ·subst hend
  rw[List.take_of_length_le (by omega),<- List.take_length (l:=acs),hb]
  repeat (first|simp only[go_sem,i0,i3]|simp (disch:=first|exact oa|fail) only[AX,i0,i3]|refine wki ?_|refine wqn ?_)
 by_cases h60:k=60
 ·subst h60
  rw[hb]
  repeat (first|simp only[go_sem,i0,i3]|simp (disch:=first|exact oa|fail) only[AX,i0,i3]|refine wki ?_|refine wqn ?_)
 ·obtain⟨rest,g1⟩:=act_at (acs:=acs) (i:=k) (by omega)
  have gor:=any_takeS longA acs default (i:=k) (by omega)
  have gtr:longA (acs.getD k default)=true->(acs.take 60).any longA=true:=fun h=>by
   refine any_of_getDS longA (acs.take 60) default (i:=k) (by rw[List.length_take];omega) ?_
   rw[List.getD_eq_getElem?_getD,List.getElem?_take_of_lt (by omega),<- List.getD_eq_getElem?_getD]
   exact h
  rw[hb,Bool.false_or]at gor
  have hmem:acs.getD k default∈acs:=by
   rw[List.getD_eq_getElem?_getD,List.getElem?_eq_getElem (by omega)]
   exact List.getElem_mem _
  generalize acs.getD k default=a at *
  by_cases c1:60<a.t.length
  ·rw[gtr (by unfold longA;rw[decide_eq_true c1];rfl)]
   clear gtr gor
   repeat (first|simp only[go_sem,i0,i3,g1,hlen,bs_size,List.drop_succ_cons,List.drop_zero,List.head?_cons]|simp (disch:=first|exact oa|fail) only[AX,i0,i3,g1,hlen,bs_size,List.drop_succ_cons,List.drop_zero,List.head?_cons]|refine wki ?_|refine wqn ?_)
  ·by_cases c2:300<a.x.length
   ·rw[gtr (by unfold longA;rw[decide_eq_true c2,Bool.true_or,Bool.or_true])]
    clear gtr gor
    repeat (first|simp only[go_sem,i0,i3,g1,hlen,bs_size,List.drop_succ_cons,List.drop_zero,List.head?_cons]|simp (disch:=first|exact oa|fail) only[AX,i0,i3,g1,hlen,bs_size,List.drop_succ_cons,List.drop_zero,List.head?_cons]|refine wki ?_|refine wqn ?_)
   ·by_cases c3:300<a.ps.length
    ·rw[gtr (by unfold longA;rw[decide_eq_true c3,Bool.true_or,Bool.or_true,Bool.or_true])]
     clear gtr gor
     repeat (first|simp only[go_sem,i0,i3,g1,hlen,bs_size,List.drop_succ_cons,List.drop_zero,List.head?_cons]|simp (disch:=first|exact oa|fail) only[AX,i0,i3,g1,hlen,bs_size,List.drop_succ_cons,List.drop_zero,List.head?_cons]|refine wki ?_|refine wqn ?_)
    ·have hbig:=law22_big a.ps (by omega)
     cases hb2:a.ps.any big3 with
     |true=>
      rw[gtr (by unfold longA;rw[hb2,Bool.or_true,Bool.or_true,Bool.or_true])]
      rw[hb2]at hbig
      clear gtr gor
      repeat (first|simp only[go_sem,i0,i3,g1,hlen,bs_size,List.drop_succ_cons,List.drop_zero,List.head?_cons]|simp (disch:=first|exact oa|fail) only[AX,i0,i3,g1,hlen,bs_size,List.drop_succ_cons,List.drop_zero,List.head?_cons]|refine wki ?_|refine wqn ?_|refine vf_of (by first|exact hbig) ?_)
     |false=>
      have hbn:longA a=false:=by unfold longA;rw[decide_eq_false c1,decide_eq_false c2,decide_eq_false c3,hb2];rfl
      rw[hbn]at gor
      rw[hb2]at hbig
      clear gtr hbn
      repeat (first|simp only[go_sem,i0,i3,g1,hlen,bs_size,List.drop_succ_cons,List.drop_zero,List.head?_cons]|simp (disch:=first|exact oa|fail) only[AX,i0,i3,g1,hlen,bs_size,List.drop_succ_cons,List.drop_zero,List.head?_cons]|refine wki ?_|refine wqn ?_|refine vf_of (by first|exact hbig) ?_)
      exact⟨⟨k+1,rfl,by omega,by omega,gor⟩,by omega⟩
end Go.Proofs.YtjphnjffglapgaaGreatDoor
namespace Go.Proofs.YtjphnjffglapgaaGreatDoor
open Go.Ev
theorem cb_self : ∀a:List UInt8,Lib.compareBytes a a=0
 | []=>rfl
 |x::a=>by
  unfold Lib.compareBytes
  rw[if_neg (by simp),if_neg (by simp),cb_self a]
theorem cb_swap : ∀a b:List UInt8,Lib.compareBytes b a = - Lib.compareBytes a b
 | [],[]=>rfl
 | [],_::_=>rfl
 |_::_,[]=>rfl
 |x::a,y::b=>by
  unfold Lib.compareBytes
  by_cases h1:x<y
  ·rw[if_neg (by rw[UInt8.lt_iff_toNat_lt]at *;omega),if_pos h1,if_pos h1];rfl
  ·by_cases h2:y<x
   ·rw[if_pos h2,if_neg h1,if_pos h2]
   ·rw[if_neg h2,if_neg h1,if_neg h1,if_neg h2,cb_swap a b]
theorem cb_trans : ∀ {a b c:List UInt8},Lib.compareBytes a b<0->Lib.compareBytes b c<0->Lib.compareBytes a c<0
 | [],[],_,h,_=>by simp[Lib.compareBytes]at h
 | [],_::_,[],_,h=>by simp[Lib.compareBytes]at h
 | [],_::_,_::_,_,_=>by simp[Lib.compareBytes]
 |_::_,[],_,h,_=>by simp[Lib.compareBytes]at h
 |_::_,_::_,[],_,h=>by simp[Lib.compareBytes]at h
 |x::a,y::b,z::c,h,k=>by
  unfold Lib.compareBytes at h k ⊢
  by_cases h1:x<y
  ·by_cases k1:y<z
   ·rw[if_pos (by rw[UInt8.lt_iff_toNat_lt]at *;omega)];decide
   ·rw[if_neg k1]at k
    by_cases k2:z<y
    ·rw[if_pos k2]at k;simp at k
    ·have:y=z:=by
      apply UInt8.toNat.inj
      rw[UInt8.lt_iff_toNat_lt]at *;omega
     subst this
     rw[if_pos h1];decide
  ·rw[if_neg h1]at h
   by_cases h2:y<x
   ·rw[if_pos h2]at h;simp at h
   ·rw[if_neg h2]at h
    have:x=y:=by
     apply UInt8.toNat.inj
     rw[UInt8.lt_iff_toNat_lt]at *;omega
    subst this
    by_cases k1:x<z
    ·rw[if_pos k1];decide
    ·rw[if_neg k1]at k ⊢
     by_cases k2:z<x
     ·rw[if_pos k2]at k;simp at k
     ·rw[if_neg k2]at k ⊢
      exact cb_trans h k
theorem cb_less : ∀a b:List UInt8,Op.bytesLess a b=decide (Lib.compareBytes a b<0)
 | [],[]=>rfl
 | [],_::_=>rfl
 |_::_,[]=>rfl
 |x::a,y::b=>by
  unfold Op.bytesLess Lib.compareBytes
  have ih:=cb_less a b
  by_cases h1:x<y
  ·rw[if_pos h1,decide_eq_true h1];rfl
  ·rw[if_neg h1,decide_eq_false h1,Bool.false_or]
   by_cases h2:y<x
   ·rw[if_pos h2]
    have:(x==y)=false:=by
     rw[beq_eq_false_iff_ne]
     intro e;subst e
     rw[UInt8.lt_iff_toNat_lt]at h2;omega
    rw[this];rfl
   ·rw[if_neg h2]
    have:x=y:=by
     apply UInt8.toNat.inj
     rw[UInt8.lt_iff_toNat_lt]at *;omega
    subst this
    rw[beq_self_eq_true,Bool.true_and,ih]
theorem cmp_zero0 : ∀ {a b:List UInt8},Lib.compareBytes a b=0->a=b
 | [],[],_=>rfl
 | [],_::_,h=>by simp[Lib.compareBytes]at h
 |_::_,[],h=>by simp[Lib.compareBytes]at h
 |x::a,y::b,h=>by
  unfold Lib.compareBytes at h
  split at h
  ·cases h
  ·rename_i h1
   split at h
   ·cases h
   ·rename_i h2
    have e:x=y:=UInt8.le_antisymm (UInt8.not_lt.1 h2) (UInt8.not_lt.1 h1)
    rw[e,cmp_zero0 h]
def Srt (es:List Ent):Prop:=es.Pairwise fun a b=>Lib.compareBytes a.1 b.1<0
theorem pos_ex : ∀ {es:List Ent},Srt es -> ∀t:List UInt8,∃p,PosAt es t p
 | [],_,t=>⟨0,by simp,fun k h=>absurd h (Nat.not_lt_zero k),fun k _ h=>absurd h (Nat.not_lt_zero k)⟩
 |e::es,h,t=>by
  unfold Srt at h
  rw[List.pairwise_cons]at h
  by_cases hc:Lib.compareBytes e.1 t<0
  ·obtain⟨p,h1,h2,h3⟩:=pos_ex h.2 t
   refine⟨p+1,by simpa using h1,fun k hk => ?_,fun k hk hk2 => ?_⟩
   ·cases k with
    |zero=>exact hc
    |succ k=>exact h2 k (by omega)
   ·cases k with
    |zero=>omega
    |succ k=>exact h3 k (by omega) (by simpa using hk2)
  ·refine⟨0,by simp,fun k hk=>absurd hk (Nat.not_lt_zero k),fun k _ hk2 hlt => ?_⟩
   cases k with
   |zero=>exact hc hlt
   |succ k=>
    have hk3:k<es.length:=by simpa using hk2
    have hm:es.getD k default∈es:=by
     rw[List.getD_eq_getElem?_getD,List.getElem?_eq_getElem hk3]
     exact List.getElem_mem hk3
    exact hc (cb_trans (h.1 _ hm) hlt)
theorem srt_drop {es:List Ent} (h:Srt es) (p:Nat):Srt (es.take p++es.drop (p+1)):=by
 rw[<- List.eraseIdx_eq_take_drop_succ]
 exact List.Pairwise.sublist (List.eraseIdx_sublist es p) h
theorem take_mem {es:List Ent} {p:Nat} {x:Ent} (h:x∈es.take p) : ∃k,k<p/\k<es.length/\es.getD k default=x:=by
 obtain⟨k,hk,e⟩:=List.mem_iff_getElem.1 h
 have hk':k<p/\k<es.length:=by rw[List.length_take]at hk;omega
 refine⟨k,hk'.1,hk'.2,?_⟩
 rw[List.getD_eq_getElem?_getD,List.getElem?_eq_getElem hk'.2]
 rw[List.getElem_take]at e
 exact e
theorem drop_mem {es:List Ent} {p:Nat} {x:Ent} (h:x∈es.drop p) : ∃k,p<=k/\k<es.length/\es.getD k default=x:=by
 obtain⟨k,hk,e⟩:=List.mem_iff_getElem.1 h
 have hk':p+k<es.length:=by rw[List.length_drop]at hk;omega
 refine⟨p+k,by omega,hk',?_⟩
 rw[List.getD_eq_getElem?_getD,List.getElem?_eq_getElem hk']
 rw[List.getElem_drop]at e
 exact e
theorem srt_ins {es:List Ent} {t:List UInt8} {p m:Nat} {cs:List SV} (h:Srt es) (hp:PosAt es t p) (hat:isAt es t p=false):Srt (insE es p (t,m,cs)):=by
 have hgt : ∀x∈es.drop p,Lib.compareBytes t x.1<0:=by
  intro x hx
  obtain⟨k,h1,h2,rfl⟩:=drop_mem hx
  have hk:=hp.hi k h1 h2
  unfold cmpAt at hk
  rw[cb_swap]
  have hne:Lib.compareBytes (es.getD k default).1 t≠0:=by
   intro e0
   by_cases hkp:k=p
   ·subst hkp
    unfold isAt cmpAt at hat
    rw[decide_eq_true h2,Bool.true_and,e0]at hat
    cases hat
   ·have hlt:Lib.compareBytes (es.getD p default).1 (es.getD k default).1<0:=by
     have:=List.pairwise_iff_getElem.1 h p k (by omega) h2 (by omega)
     rw[List.getD_eq_getElem?_getD,List.getElem?_eq_getElem (show p<es.length by omega),List.getD_eq_getElem?_getD,List.getElem?_eq_getElem h2]
     exact this
    have hp':=hp.hi p (Nat.le_refl _) (by omega)
    unfold cmpAt at hp'
    rw[cmp_zero0 e0]at hlt
    exact hp' hlt
  omega
 unfold Srt insE
 rw[List.pairwise_append,List.pairwise_cons]
 refine⟨List.Pairwise.sublist (List.take_sublist p es) h,⟨hgt,List.Pairwise.sublist (List.drop_sublist p es) h⟩,fun a ha b hb => ?_⟩
 obtain⟨k,h1,h2,rfl⟩:=take_mem ha
 have hk:=hp.lo k h1
 unfold cmpAt at hk
 rcases List.mem_cons.1 hb with rfl|hb
 ·exact hk
 ·exact cb_trans hk (hgt b hb)
theorem srt_set {es:List Ent} {t:List UInt8} {p m:Nat} {cs:List SV} (h:Srt es) (hn:(es.getD p default).1=t) (hp:p<es.length):Srt (es.set p (t,m,cs)):=by
 have e:(es.set p (t,m,cs)).map (·.1)=es.map (·.1):=by
  rw[List.map_set]
  refine List.ext_getElem? fun k => ?_
  rw[List.getElem?_set]
  split
  ·rename_i e
   subst e
   rw[if_pos (by simpa using hp),List.getElem?_map,List.getElem?_eq_getElem hp]
   rw[List.getD_eq_getElem?_getD,List.getElem?_eq_getElem hp]at hn
   simpa using hn.symm
  ·rfl
 unfold Srt at h ⊢
 have h1:=(List.pairwise_map (f:=fun e:Ent=>e.1) (R:=fun a b=>Lib.compareBytes a b<0)).2 h
 rw[<- e]at h1
 exact(List.pairwise_map (f:=fun e:Ent=>e.1) (R:=fun a b=>Lib.compareBytes a b<0)).1 h1
end Go.Proofs.YtjphnjffglapgaaGreatDoor
namespace Go.Proofs.YtjphnjffglapgaaGreatDoor
open Go.Ev
section
variable {ops:Array Oper} {l:List Oper} {dst:Option Nat} {st:St} {Q:St->Prop} {d g p:Nat} {es:List Ent} {t:List UInt8} {D:Int}
end
end Go.Proofs.YtjphnjffglapgaaGreatDoor
namespace Go.Proofs.YtjphnjffglapgaaGreatDoor
open Go.Ev
end Go.Proofs.YtjphnjffglapgaaGreatDoor
namespace Go.Proofs.YtjphnjffglapgaaGreatDoor
open Go.Ev
theorem long_ex {acs:List ActI} {i:Nat} (h:(acs.take 60).any longA=false) (hi:i<acs.length) (h60:i<60):longA (acs.getD i default)=false:=by
 have h2:=List.any_eq_false.1 h (acs.getD i default) (by
  rw[List.mem_iff_getElem]
  refine⟨i,by rw[List.length_take];omega,?_⟩
  rw[List.getElem_take,List.getD_eq_getElem?_getD,List.getElem?_eq_getElem hi]
  rfl)
 cases e:longA (acs.getD i default) with
 |false=>rfl
 |true=>exact absurd e h2
theorem longA_parts {a:ActI} (h:longA a=false):a.t.length<=60/\a.x.length<=300/\a.ps.length<=300/\a.ps.any big3=false:=by
 unfold longA at h
 rw[Bool.or_eq_false_iff,Bool.or_eq_false_iff,Bool.or_eq_false_iff]at h
 have h1:=of_decide_eq_false h.1
 have h2:=of_decide_eq_false h.2.1
 have h3:=of_decide_eq_false h.2.2.1
 exact⟨by omega,by omega,by omega,h.2.2.2⟩
theorem nam_at : ∀ {es:List Ent} {k:Nat},k<es.length->(namC es).drop k = .str (bs (es.getD k default).1)::(namC es).drop (k+1)
 |e::es,0,_=>rfl
 |e::es,k+1,h=>by
  have:=nam_at (es:=es) (k:=k) (by simpa using h)
  exact this
def NR (v:TV):Prop:=v = .undef \/ ∃x,v = .sv x
end Go.Proofs.YtjphnjffglapgaaGreatDoor
namespace Go.Proofs.YtjphnjffglapgaaGreatDoor
open Go.Ev
theorem cb_eq (a b:List UInt8):(a==b)=(Lib.compareBytes a b==0):=by
 by_cases h:a=b
 ·subst h
  rw[cb_self,beq_self_eq_true]
  rfl
 ·rw[beq_eq_false_iff_ne.2 h,beq_eq_false_iff_ne.2 fun e=>h (cmp_zero0 e)]
def TD (n:Nat):Bool:=Nat.beq n 16||(Nat.beq n 35||(Nat.beq n 50||(Nat.beq n 59||Nat.beq n 70)))
def rowL (es:List Ent):List SV:=es.map fun e => .sl e.2.1 e.2.2
theorem rowL_len (es:List Ent):(rowL es).length=es.length:=by unfold rowL;rw[List.length_map]
theorem rowL_at : ∀ {es:List Ent} {k:Nat},k<es.length->(rowL es).drop k = .sl (es.getD k default).2.1 (es.getD k default).2.2::(rowL es).drop (k+1)
 |e::es,0,_=>rfl
 |e::es,k+1,h=>rowL_at (es:=es) (k:=k) (by simpa using h)
structure SessD (st:St) (d g:Nat) (es:List Ent) (D:Int):Prop where
 ob:H0<=d
 row:(es=[]/\st.hob d g=some [.nil,.nil,.sv (.int .i64 D)]) \/ ∃dn gn dl gl,(dn=16\/dn=59)/\(dl=35\/dl=70)/\gn<st.gen dn/\gl<st.gen dl /\
  st.hob d g=some [.ref dn gn 1 0 es.length,.ref dl gl 1 0 es.length,.sv (.int .i64 D)]/\st.obj dn gn=some (namC es)/\st.obj dl gl=some (rowL es)
theorem SessD.same {st s:St} {d g:Nat} {es:List Ent} {D:Int} (h:SessD st d g es D) (h1:s.hob=st.hob) (h2:s.obj=st.obj) (h3:s.gen=st.gen):SessD s d g es D:=by
 obtain⟨a,b⟩:=h
 refine⟨a,?_⟩
 rw[h1,h2,h3]
 exact b
theorem SessD.keep {st s:St} {d d' g:Nat} {es:List Ent} {D:Int} (h:SessD st d g es D) (k:Kp TP d' st s) (hd:d≠d'):SessD s d g es D:=by
 obtain⟨ho,hrow⟩:=h
 refine⟨ho,?_⟩
 rcases hrow with⟨e,h1⟩|⟨dn,gn,dl,gl,en,el,gn1,gl1,h1,h2,h3⟩
 ·refine .inl ⟨e,k.hob d g _ hd h1 fun t ht => ?_⟩
  simp only[List.mem_cons,List.not_mem_nil,or_false]at ht
  rcases ht with rfl|rfl|rfl<;>rfl
 ·refine .inr ⟨dn,gn,dl,gl,en,el,Nat.lt_of_lt_of_le gn1 (k.gen _),Nat.lt_of_lt_of_le gl1 (k.gen _),k.hob d g _ hd h1 fun t ht => ?_,(k.obj dn gn ?_ gn1).trans h2,(k.obj dl gl ?_ gl1).trans h3⟩
  ·simp only[List.mem_cons,List.not_mem_nil,or_false]at ht
   rcases ht with rfl|rfl|rfl
   ·rcases en with rfl|rfl<;>rfl
   ·rcases el with rfl|rfl<;>rfl
   ·rfl
  ·rcases en with rfl|rfl<;>rfl
  ·rcases el with rfl|rfl<;>rfl
theorem SessR.keep {st s:St} {d d' g:Nat} {es:List Ent} {D:Int} (h:SessR st d g es D) (k:Kp TD d' st s) (hd:d≠d'):SessR s d g es D:=by
 obtain⟨ho,hrow⟩:=h
 refine⟨ho,?_⟩
 rcases hrow with⟨e,h1⟩|⟨g1,hg1,h1,h2⟩
 ·refine .inl ⟨e,k.hob d g _ hd h1 fun t ht => ?_⟩
  simp only[List.mem_cons,List.not_mem_nil,or_false]at ht
  rcases ht with rfl|rfl<;>rfl
 ·refine .inr ⟨g1,Nat.lt_of_lt_of_le hg1 (k.gen _),k.hob d g _ hd h1 fun t ht => ?_,(k.obj 25 g1 rfl hg1).trans h2⟩
  simp only[List.mem_cons,List.not_mem_nil,or_false]at ht
  rcases ht with rfl|rfl<;>rfl
section
variable {ops:Array Oper} {l:List Oper} {dst:Option Nat} {st:St} {Q:St->Prop} {d g p:Nat} {es:List Ent} {t:List UInt8} {D:Int}
theorem same_of {st s:St} {vs:List TV} (h1:s.up=(st.enter vs).up) (h2:s.obj=st.obj) (h3:s.gen=st.gen) (h4:s.hob=st.hob):Same st s.leave:=
 ⟨fun t=>by rw[tmp_leave,h1,up_even],fun t=>by rw[up_leave,h1,up_odd],fun d g=>by rw[obj_leave,h2],by rw[gen_leave,h3],by rw[hob_leave,h4]⟩
theorem doc_at (hp:PosAt es t p) (hl:es.length<=100000) (h:SessD st d g es D)
  (k : ∀st',Same st st'->WO CX false ops l (st'.putO dst (.sv (.tup [.int .i64 p,.bool (isAt es t p)]))) Q) :
  WN CX ops l dst st Q 25 [.ptr d g 0,.sv (.str (bs t))]:=by
 obtain⟨hd,hrow⟩:=h
 have hd':2000000<=d:=hd
 rcases hrow with⟨rfl,ho⟩|⟨dn,gn,dl,gl,en,el,gn1,gl1,ho,hN,hL⟩
 ·have:p=0:=by have:=hp.le;simpa using this
  subst this
  refine wni Tryz.f25 ?_;unfold Tryz.f25;simp only[Option.get!_some]
  repeat (first|simp only[go_sem,hd',ho]|simp (disch:=first|exact oa|fail) only[AX,hd',ho]|refine wki ?_|refine wqn ?_|refine vpd 4 [] ?_)
  refine vp_loop_fam (fun n s=>n=0/\s.tmp 0 = .ptr d g 0/\s.tmp 1 = .sv (.str (bs t))/\s.tmp 6 = .sv (.int .i64 0)/\s.up=(st.enter [.ptr d g 0,.sv (.str (bs t))]).up/\s.hob=st.hob/\s.obj=st.obj/\s.gen=st.gen) 0 ⟨rfl,rfl,rfl,rfl,rfl,rfl,rfl,rfl⟩ ?_
  rintro n s ⟨-,i0,i1,i6,hup,hhob,hob,hgen⟩
  have ho':s.hob d g=some [.nil,.nil,.sv (.int .i64 D)]:=by rw[hhob];exact ho
  repeat (first|simp only[go_sem,i0,i1,i6,hd',ho']|simp (disch:=first|exact oa|fail) only[AX,i0,i1,i6,hd',ho']|refine wki ?_|refine wqn ?_|refine vpd 4 [] ?_)
  exact k _ (same_of (vs:=[.ptr d g 0,.sv (.str (bs t))]) hup hob hgen hhob)
 ·have hnl:=namC_len es
  refine wni Tryz.f25 ?_;unfold Tryz.f25;simp only[Option.get!_some]
  repeat (first|simp only[go_sem,hd',ho]|simp (disch:=first|exact oa|fail) only[AX,hd',ho]|refine wki ?_|refine wqn ?_|refine vpd 4 [] ?_)
  refine vp_loop_inv (fun s=>s.tmp 0 = .ptr d g 0/\s.tmp 1 = .sv (.str (bs t))/\s.up=(st.enter [.ptr d g 0,.sv (.str (bs t))]).up/\s.hob=st.hob/\s.obj=st.obj/\s.gen=st.gen /\ ∃k:Nat,s.tmp 6 = .sv (.int .i64 (k:Int))/\k<=p)
   (fun s=>match s.tmp 6 with | .sv (.int _ i)=>p-i.toNat|_=>0) ⟨rfl,rfl,rfl,rfl,rfl,rfl,0,rfl,by omega⟩ ?_
  rintro s ⟨i0,i1,hup,hhob,hob,hgen,j,i6,hj⟩
  have ho':s.hob d g=some [.ref dn gn 1 0 es.length,.ref dl gl 1 0 es.length,.sv (.int .i64 D)]:=by rw[hhob];exact ho
  have hN':s.obj dn gn=some (namC es):=by rw[hob];exact hN
  have hple:=hp.le
  by_cases hjp:j=p
  ·subst hjp
   by_cases hlt:j<es.length
   ·have x1:=nam_at (es:=es) (k:=j) hlt
    have hls:=cb_less (es.getD j default).1 t
    have h0 : ¬Lib.compareBytes (es.getD j default).1 t<0:=hp.hi j (Nat.le_refl _) hlt
    rw[decide_eq_false h0]at hls
    have he:=cb_eq (es.getD j default).1 t
    have hat:isAt es t j=(Lib.compareBytes (es.getD j default).1 t==0):=by
     unfold isAt cmpAt
     rw[decide_eq_true hlt,Bool.true_and]
    rw[<- he]at hat
    rw[hat]at k
    generalize (es.getD j default).1=ta at *
    repeat (first|simp only[go_sem,i0,i1,i6,hd',ho',hN',hnl,x1,List.head?_cons,bs_list,hls]|simp (disch:=first|exact oa|fail) only[AX,i0,i1,i6,hd',ho',hN',hnl,x1,List.head?_cons,bs_list,hls]|refine wki ?_|refine wqn ?_|refine vpd 4 [] ?_)
    exact k _ (same_of (vs:=[.ptr d g 0,.sv (.str (bs t))]) hup hob hgen hhob)
   ·have hat:isAt es t j=false:=by
     unfold isAt
     rw[decide_eq_false hlt,Bool.false_and]
    rw[hat]at k
    repeat (first|simp only[go_sem,i0,i1,i6,hd',ho',hN',hnl]|simp (disch:=first|exact oa|fail) only[AX,i0,i1,i6,hd',ho',hN',hnl]|refine wki ?_|refine wqn ?_|refine vpd 4 [] ?_)
    exact k _ (same_of (vs:=[.ptr d g 0,.sv (.str (bs t))]) hup hob hgen hhob)
  ·have x1:=nam_at (es:=es) (k:=j) (by omega)
   have hls:=cb_less (es.getD j default).1 t
   have h0:Lib.compareBytes (es.getD j default).1 t<0:=hp.lo j (by omega)
   rw[decide_eq_true h0]at hls
   generalize (es.getD j default).1=ta at *
   repeat (first|simp only[go_sem,i0,i1,i6,hd',ho',hN',hnl,x1,List.head?_cons,bs_list,hls]|simp (disch:=first|exact oa|fail) only[AX,i0,i1,i6,hd',ho',hN',hnl,x1,List.head?_cons,bs_list,hls]|refine wki ?_|refine wqn ?_|refine vpd 4 [] ?_)
   exact⟨⟨hup,hhob,hob,hgen,j+1,rfl,by omega⟩,by omega⟩
def digOk (n:Int):Bool:=decide (0<=n)&&decide (n<=30)
theorem doc_SetDigits (n:Int) (h:SessD st d g es D)
  (k : ∀st',KeepT TD d st st'->SessD st' d g es (if digOk n=true then n else D)->WO CX false ops l (st'.putO dst (.sv (.int .i64 (if digOk n=true then 0 else 1)))) Q) :
  WN CX ops l dst st Q 14 [.ptr d g 0,.sv (.int .i64 n)]:=by
 have hd':2000000<=d:=h.ob
 have hs0:=h
 by_cases h1:n<0
 ·have e:digOk n=false:=by unfold digOk;rw[decide_eq_false (by omega),Bool.false_and]
  rw[e]at k
  simp only[Bool.false_eq_true,if_false]at k
  refine wni Tryz.f14 ?_;unfold Tryz.f14;simp only[Option.get!_some]
  repeat (first|simp only[go_sem,hd']|simp (disch:=first|exact oa|fail) only[AX,hd']|refine wki ?_|refine wqn ?_)
  exact k _ (keep_of (by repeat (first|exact Kp.refl|refine Kp.put ?_|refine Kp.setH ?_|refine Kp.newset ?_|refine Kp.set rfl ?_|refine Kp.set (by assumption) ?_|refine Kp.new ?_|refine Kp.grow rfl ?_|refine Kp.frzd rfl ?_|refine Kp.ins rfl ?_))) (hs0.same rfl rfl rfl)
 by_cases h2:30<n
 ·have e:digOk n=false:=by unfold digOk;rw[decide_eq_false (by omega : ¬n<=30),Bool.and_false]
  rw[e]at k
  simp only[Bool.false_eq_true,if_false]at k
  refine wni Tryz.f14 ?_;unfold Tryz.f14;simp only[Option.get!_some]
  repeat (first|simp only[go_sem,hd']|simp (disch:=first|exact oa|fail) only[AX,hd']|refine wki ?_|refine wqn ?_)
  exact k _ (keep_of (by repeat (first|exact Kp.refl|refine Kp.put ?_|refine Kp.setH ?_|refine Kp.newset ?_|refine Kp.set rfl ?_|refine Kp.set (by assumption) ?_|refine Kp.new ?_|refine Kp.grow rfl ?_|refine Kp.frzd rfl ?_|refine Kp.ins rfl ?_))) (hs0.same rfl rfl rfl)
 ·have e:digOk n=true:=by unfold digOk;rw[decide_eq_true (by omega:0<=n),decide_eq_true (by omega:n<=30)];rfl
  rw[e]at k
  simp only[if_true]at k
  obtain⟨_,hrow⟩:=h
  rcases hrow with⟨rfl,ho⟩|⟨dn,gn,dl,gl,en,el,gn1,gl1,ho,hN,hL⟩
  ·refine wni Tryz.f14 ?_;unfold Tryz.f14;simp only[Option.get!_some]
   repeat (first|simp only[go_sem,hd',ho]|simp (disch:=first|exact oa|fail) only[AX,hd',ho]|refine wki ?_|refine wqn ?_)
   refine k _ (keep_of (by repeat (first|exact Kp.refl|refine Kp.put ?_|refine Kp.setH ?_|refine Kp.newset ?_|refine Kp.set rfl ?_|refine Kp.set (by assumption) ?_|refine Kp.new ?_|refine Kp.grow rfl ?_|refine Kp.frzd rfl ?_|refine Kp.ins rfl ?_))) ⟨hd',.inl ⟨rfl,?_⟩⟩
   simp only[hob_leave,hob_put,hob_setH,and_self,if_true]
  ·refine wni Tryz.f14 ?_;unfold Tryz.f14;simp only[Option.get!_some]
   repeat (first|simp only[go_sem,hd',ho]|simp (disch:=first|exact oa|fail) only[AX,hd',ho]|refine wki ?_|refine wqn ?_)
   refine k _ (keep_of (by repeat (first|exact Kp.refl|refine Kp.put ?_|refine Kp.setH ?_|refine Kp.newset ?_|refine Kp.set rfl ?_|refine Kp.set (by assumption) ?_|refine Kp.new ?_|refine Kp.grow rfl ?_|refine Kp.frzd rfl ?_|refine Kp.ins rfl ?_))) ⟨hd',.inr ⟨dn,gn,dl,gl,en,el,gn1,gl1,?_,hN,hL⟩⟩
   simp only[hob_leave,hob_put,hob_setH,and_self,if_true]
theorem sess_SetDigits (n:Int) (h:SessR st d g es D)
  (k : ∀st',Keep d st st'->SessR st' d g es (if digOk n=true then n else D)->WO CX false ops l (st'.putO dst (.sv (.int .i64 (if digOk n=true then 0 else 1)))) Q) :
  WN CX ops l dst st Q 13 [.ptr d g 0,.sv (.int .i64 n)]:=by
 have hd':2000000<=d:=h.ob
 have hs0:=h
 by_cases h1:n<0
 ·have e:digOk n=false:=by unfold digOk;rw[decide_eq_false (by omega),Bool.false_and]
  rw[e]at k
  simp only[Bool.false_eq_true,if_false]at k
  refine wni Tryz.f13 ?_;unfold Tryz.f13;simp only[Option.get!_some]
  repeat (first|simp only[go_sem,hd']|simp (disch:=first|exact oa|fail) only[AX,hd']|refine wki ?_|refine wqn ?_)
  exact k _ (keep_of (by repeat (first|exact Kp.refl|refine Kp.put ?_|refine Kp.setH ?_|refine Kp.newset ?_|refine Kp.set rfl ?_|refine Kp.set (by assumption) ?_|refine Kp.new ?_|refine Kp.grow rfl ?_|refine Kp.frzd rfl ?_|refine Kp.ins rfl ?_))) (hs0.of rfl (fun _=>rfl) (Nat.le_refl _))
 by_cases h2:30<n
 ·have e:digOk n=false:=by unfold digOk;rw[decide_eq_false (by omega : ¬n<=30),Bool.and_false]
  rw[e]at k
  simp only[Bool.false_eq_true,if_false]at k
  refine wni Tryz.f13 ?_;unfold Tryz.f13;simp only[Option.get!_some]
  repeat (first|simp only[go_sem,hd']|simp (disch:=first|exact oa|fail) only[AX,hd']|refine wki ?_|refine wqn ?_)
  exact k _ (keep_of (by repeat (first|exact Kp.refl|refine Kp.put ?_|refine Kp.setH ?_|refine Kp.newset ?_|refine Kp.set rfl ?_|refine Kp.set (by assumption) ?_|refine Kp.new ?_|refine Kp.grow rfl ?_|refine Kp.frzd rfl ?_|refine Kp.ins rfl ?_))) (hs0.of rfl (fun _=>rfl) (Nat.le_refl _))
 ·have e:digOk n=true:=by unfold digOk;rw[decide_eq_true (by omega:0<=n),decide_eq_true (by omega:n<=30)];rfl
  rw[e]at k
  simp only[if_true]at k
  obtain⟨_,hrow⟩:=h
  rcases hrow with⟨rfl,ho⟩|⟨g1,hg1,ho,hobj⟩
  ·refine wni Tryz.f13 ?_;unfold Tryz.f13;simp only[Option.get!_some]
   repeat (first|simp only[go_sem,hd',ho]|simp (disch:=first|exact oa|fail) only[AX,hd',ho]|refine wki ?_|refine wqn ?_)
   refine k _ (keep_of (by repeat (first|exact Kp.refl|refine Kp.put ?_|refine Kp.setH ?_|refine Kp.newset ?_|refine Kp.set rfl ?_|refine Kp.set (by assumption) ?_|refine Kp.new ?_|refine Kp.grow rfl ?_|refine Kp.frzd rfl ?_|refine Kp.ins rfl ?_))) ⟨hd',.inl ⟨rfl,?_⟩⟩
   simp only[hob_leave,hob_put,hob_setH,and_self,if_true]
  ·refine wni Tryz.f13 ?_;unfold Tryz.f13;simp only[Option.get!_some]
   repeat (first|simp only[go_sem,hd',ho]|simp (disch:=first|exact oa|fail) only[AX,hd',ho]|refine wki ?_|refine wqn ?_)
   refine k _ (keep_of (by repeat (first|exact Kp.refl|refine Kp.put ?_|refine Kp.setH ?_|refine Kp.newset ?_|refine Kp.set rfl ?_|refine Kp.set (by assumption) ?_|refine Kp.new ?_|refine Kp.grow rfl ?_|refine Kp.frzd rfl ?_|refine Kp.ins rfl ?_))) ⟨hd',.inr ⟨g1,hg1,?_,hobj⟩⟩
   simp only[hob_leave,hob_put,hob_setH,and_self,if_true]
end
end Go.Proofs.YtjphnjffglapgaaGreatDoor
namespace Go.Proofs.YtjphnjffglapgaaGreatDoor
open Go.Ev
theorem trim_all {l cs:List UInt8} {p:UInt8->Bool} (e : ∀b,cs.contains b=p b):(Lib.trimS l cs).isEmpty=l.all p:=by
 have e:(fun b=>cs.contains b)=p:=funext e
 have h1:Lib.trimS l cs=(l.reverse.dropWhile p).reverse.dropWhile p:=by
  unfold Lib.trimS Lib.trimLeftS Lib.trimRightS
  rw[e]
 rw[h1]
 cases hl:l.all p with
 |true=>
  have:l.reverse.dropWhile p=[]:=drop_nil.2 (by rw[List.all_reverse];exact hl)
  rw[this]
  rfl
 |false=>
  have h2:l.reverse.dropWhile p≠[]:=fun h=>by
   have:=drop_nil.1 h
   rw[List.all_reverse,hl]at this
   cases this
  have h3:((l.reverse.dropWhile p).reverse.dropWhile p)≠[]:=fun h=>by
   have h4:=drop_nil.1 h
   rw[List.all_reverse]at h4
   cases hd:l.reverse.dropWhile p with
   |nil=>exact h2 hd
   |cons b r=>
    have h5:=List.head_dropWhile_not p (w:=h2)
    rw[hd]at h4
    rw[List.all_cons,Bool.and_eq_true]at h4
    simp only[hd,List.head_cons]at h5
    rw[h4.1]at h5
    cases h5
  cases h:((l.reverse.dropWhile p).reverse.dropWhile p) with
  |nil=>exact absurd h h3
  |cons b r=>rfl
def letr (b:UInt8):Bool:=decide (97<=b.toNat)&&decide (b.toNat<=122)
def nch (b:UInt8):Bool:=letr b||(decide (48<=b.toNat)&&decide (b.toNat<=57))
theorem sgn_nch (b:UInt8):sgnB.contains b=nch b:=by
 have key : ∀n:Nat,n<256->sgnB.contains (UInt8.ofNat n)=nch (UInt8.ofNat n):=by decide +kernel
 have:=key b.toNat b.toNat_lt
 rwa [UInt8.ofNat_toNat]at this
theorem let_letr (b:UInt8):decide (0<=Lib.indexByte letB b)=letr b:=by
 have key : ∀n:Nat,n<256->decide (0<=Lib.indexByte letB (UInt8.ofNat n))=letr (UInt8.ofNat n):=by decide +kernel
 have:=key b.toNat b.toNat_lt
 rwa [UInt8.ofNat_toNat]at this
theorem name_is (b:UInt8) (r:List UInt8):nameP (b::r)=(decide (r.length<12)&&(letr b&&(b::r).all nch)):=by
 show (decide (r.length<12)&&(decide (0<=Lib.indexByte letB b)&&(Lib.trimS (b::r) sgnB).isEmpty))=_
 rw[let_letr,trim_all sgn_nch]
theorem all_take_succ {α:Type} {p:α->Bool} {l:List α} {i:Nat} {b:α} (h:l[i]?=some b):(l.take (i+1)).all p=((l.take i).all p&&p b):=by
 rw[List.take_add_one,h,List.all_append]
 simp
theorem all_false {α:Type} {p:α->Bool} {l:List α} {i:Nat} {b:α} (h:l[i]?=some b) (hb:p b=false):l.all p=false:=by
 cases e:l.all p with
 |false=>rfl
 |true=>
  have:=List.all_eq_true.1 e b (List.mem_of_getElem? h)
  rw[hb]at this
  cases this
theorem ref22_Name (t:List UInt8):Go.Ev.Fn CX 20 [.str (bs t)] (.bool (nameP t)):=by
 cases t with
 |nil=>
  rw[show nameP []=false from rfl]
  refine fni Tryz.f20 ?_;unfold Tryz.f20;simp only[Option.get!_some]
  repeat (first|simp only[go_sem,bs_size]|simp (disch:=first|exact oa|fail) only[AX,bs_size]|refine wki ?_|refine wqn ?_)
 |cons b0 r=>
  rw[name_is]
  have hx0:(b0::r)[0]?=some b0:=rfl
  have hsz:(b0::r).length=r.length+1:=rfl
  by_cases h12:r.length<12
  ·rw[decide_eq_true h12,Bool.true_and]
   cases hlet:letr b0 with
   |false=>
    rw[Bool.false_and]
    unfold letr at hlet
    generalize (b0::r)=l at *
    by_cases hlo:b0.toNat<97
    ·refine fni Tryz.f20 ?_;unfold Tryz.f20;simp only[Option.get!_some]
     repeat (first|simp only[go_sem,bs_size,hsz,hx0,vo_ix,idxB_bs,Option.map_some]|simp (disch:=first|exact oa|fail) only[AX,bs_size,hsz,hx0,vo_ix,idxB_bs,Option.map_some]|refine wki ?_|refine wqn ?_)
    ·have hhi:122<b0.toNat:=by
      rw[decide_eq_true (by omega),Bool.true_and]at hlet
      have:=of_decide_eq_false hlet
      omega
     refine fni Tryz.f20 ?_;unfold Tryz.f20;simp only[Option.get!_some]
     repeat (first|simp only[go_sem,bs_size,hsz,hx0,vo_ix,idxB_bs,Option.map_some]|simp (disch:=first|exact oa|fail) only[AX,bs_size,hsz,hx0,vo_ix,idxB_bs,Option.map_some]|refine wki ?_|refine wqn ?_)
   |true=>
    rw[Bool.true_and]
    unfold letr at hlet
    rw[Bool.and_eq_true]at hlet
    have h97:=of_decide_eq_true hlet.1
    have h122:=of_decide_eq_true hlet.2
    generalize (b0::r)=l at *
    refine fni Tryz.f20 ?_;unfold Tryz.f20;simp only[Option.get!_some]
    repeat (first|simp only[go_sem,bs_size,hsz,hx0,vo_ix,idxB_bs,Option.map_some]|simp (disch:=first|exact oa|fail) only[AX,bs_size,hsz,hx0,vo_ix,idxB_bs,Option.map_some]|refine wki ?_|refine wqn ?_)
    refine vp_loop_inv (fun s=>s.tmp 0 = .sv (.str (bs l)) /\ ∃i:Nat,s.tmp 3 = .sv (.int .i64 (i:Int))/\i<=l.length/\(l.take i).all nch=true)
     (fun s=>match s.tmp 3 with | .sv (.int _ i)=>l.length-i.toNat|_=>0) ⟨rfl,0,rfl,by omega,rfl⟩ ?_
    rintro s ⟨i0,i,i3,hi,hall⟩
    by_cases hend:i=l.length
    ·subst hend
     rw[List.take_length]at hall
     rw[hall]
     repeat (first|simp only[go_sem,i0,i3,bs_size]|simp (disch:=first|exact oa|fail) only[AX,i0,i3,bs_size]|refine wki ?_|refine wqn ?_)
    ·obtain⟨b,hb⟩ : ∃b,l[i]?=some b:=⟨_,List.getElem?_eq_getElem (by omega)⟩
     have hsn:=all_take_succ (p:=nch) hb
     rw[hall,Bool.true_and]at hsn
     cases hn:nch b with
     |true=>
      rw[hn]at hsn
      unfold nch letr at hn
      simp only[Bool.or_eq_true,Bool.and_eq_true,decide_eq_true_eq]at hn
      by_cases c1:97<=b.toNat/\b.toNat<=122
      ·repeat (first|simp only[go_sem,i0,i3,bs_size,hb,vo_ix,idxB_bs,Option.map_some]|simp (disch:=first|exact oa|fail) only[AX,i0,i3,bs_size,hb,vo_ix,idxB_bs,Option.map_some]|refine wki ?_|refine wqn ?_)
       exact⟨⟨i+1,rfl,by omega,hsn⟩,by omega⟩
      ·by_cases c2:b.toNat<97
       ·repeat (first|simp only[go_sem,i0,i3,bs_size,hb,vo_ix,idxB_bs,Option.map_some]|simp (disch:=first|exact oa|fail) only[AX,i0,i3,bs_size,hb,vo_ix,idxB_bs,Option.map_some]|refine wki ?_|refine wqn ?_)
        exact⟨⟨i+1,rfl,by omega,hsn⟩,by omega⟩
       ·exfalso
        omega
     |false=>
      rw[all_false hb hn]
      unfold nch letr at hn
      simp only[Bool.or_eq_false_iff,Bool.and_eq_false_iff,decide_eq_false_iff_not]at hn
      by_cases c1:b.toNat<97
      ·by_cases c3:b.toNat<48
       ·repeat (first|simp only[go_sem,i0,i3,bs_size,hb,vo_ix,idxB_bs,Option.map_some]|simp (disch:=first|exact oa|fail) only[AX,i0,i3,bs_size,hb,vo_ix,idxB_bs,Option.map_some]|refine wki ?_|refine wqn ?_)
       ·repeat (first|simp only[go_sem,i0,i3,bs_size,hb,vo_ix,idxB_bs,Option.map_some]|simp (disch:=first|exact oa|fail) only[AX,i0,i3,bs_size,hb,vo_ix,idxB_bs,Option.map_some]|refine wki ?_|refine wqn ?_)
      ·by_cases c3:b.toNat<48
       ·exfalso
        omega
       ·repeat (first|simp only[go_sem,i0,i3,bs_size,hb,vo_ix,idxB_bs,Option.map_some]|simp (disch:=first|exact oa|fail) only[AX,i0,i3,bs_size,hb,vo_ix,idxB_bs,Option.map_some]|refine wki ?_|refine wqn ?_)
  ·rw[decide_eq_false h12,Bool.false_and]
   generalize (b0::r)=l at *
   refine fni Tryz.f20 ?_;unfold Tryz.f20;simp only[Option.get!_some]
   repeat (first|simp only[go_sem,bs_size,hsz,hx0,vo_ix,idxB_bs,Option.map_some]|simp (disch:=first|exact oa|fail) only[AX,bs_size,hsz,hx0,vo_ix,idxB_bs,Option.map_some]|refine wki ?_|refine wqn ?_)
end Go.Proofs.YtjphnjffglapgaaGreatDoor
set_option maxHeartbeats 4000000
namespace Go.Proofs.YtjphnjffglapgaaGreatDoor
open Go.Ev
theorem nam_take (es:List Ent) (i:Nat):(namC es).take i=namC (es.take i):=by unfold namC;rw[List.map_take]
theorem nam_drop (es:List Ent) (i:Nat):(namC es).drop i=namC (es.drop i):=by unfold namC;rw[List.map_drop]
theorem rowL_take (es:List Ent) (i:Nat):(rowL es).take i=rowL (es.take i):=by unfold rowL;rw[List.map_take]
theorem rowL_drop (es:List Ent) (i:Nat):(rowL es).drop i=rowL (es.drop i):=by unfold rowL;rw[List.map_drop]
theorem one_nam (es:List Ent):oneAll (namC es)=true:=by
 unfold oneAll namC
 rw[List.all_map]
 exact List.all_eq_true.2 fun x _=>rfl
theorem one_row (es:List Ent):oneAll (rowL es)=true:=by
 unfold oneAll rowL
 rw[List.all_map]
 exact List.all_eq_true.2 fun x _=>rfl
section
variable {ops:Array Oper} {l:List Oper} {dst:Option Nat} {st:St} {Q:St->Prop} {d g p:Nat} {es:List Ent} {t:List UInt8} {D:Int}
theorem doc_Set_name {tl:TV} (hn:nameP t=false) (h:SessD st d g es D)
  (k : ∀st',KeepT TD d st st'->SessD st' d g es D->WO CX false ops l (st'.putO dst (.sv (.int .i64 6))) Q) :
  WN CX ops l dst st Q 10 [.ptr d g 0,.sv (.str (bs t)),tl]:=by
 have nm:=ref22_Name t
 rw[hn]at nm
 have hd':2000000<=d:=h.ob
 refine wni Tryz.f10 ?_;unfold Tryz.f10;simp only[Option.get!_some]
 repeat (first|simp only[go_sem,hd',Bool.not_false]|simp (disch:=first|exact oa|fail) only[AX,hd',Bool.not_false]|refine wki ?_|refine wqn ?_|refine vpl 16 [] [([0,1,2,3,4,5,6,7,8,10,11,12,13,14,15,16],some (9,[0,1,10,11,12,13,14,15,16])),([],some (17,[0,1])),([18,19],some (20,[1])),([21,22],some (23,[])),([],none)] ?_|refine vf_of (by first|exact nm) ?_)
 exact k _ (keep_of (by repeat (first|exact Kp.refl|refine Kp.put ?_|refine Kp.setH ?_|refine Kp.newset ?_|refine Kp.set rfl ?_|refine Kp.set (by assumption) ?_|refine Kp.new ?_|refine Kp.grow rfl ?_|refine Kp.frzd rfl ?_|refine Kp.ins rfl ?_))) (h.same rfl rfl rfl)
theorem doc_Set_lim {m:Nat} {cs:List SV} (hn:nameP t=true) (hp:PosAt es t p) (hl:es.length<=100000) (hlim:256<m\/(isAt es t p=false/\16<=es.length)) (h:SessD st d g es D)
  (k : ∀st',KeepT TD d st st'->SessD st' d g es D->WO CX false ops l (st'.putO dst (.sv (.int .i64 7))) Q) :
  WN CX ops l dst st Q 10 [.ptr d g 0,.sv (.str (bs t)),.sv (.sl m cs)]:=by
 have nm:=ref22_Name t
 rw[hn]at nm
 have hd':2000000<=d:=h.ob
 refine wni Tryz.f10 ?_;unfold Tryz.f10;simp only[Option.get!_some]
 repeat (first|simp only[go_sem,hd',Bool.not_true]|simp (disch:=first|exact oa|fail) only[AX,hd',Bool.not_true]|refine wki ?_|refine wqn ?_|refine vpl 16 [] [([0,1,2,3,4,5,6,7,8,10,11,12,13,14,15,16],some (9,[0,1,10,11,12,13,14,15,16])),([],some (17,[0,1])),([18,19],some (20,[1])),([21,22],some (23,[])),([],none)] ?_|refine vf_of (by first|exact nm) ?_)
 refine doc_at hp hl (h.same rfl rfl rfl) ?_
 intro s1 hk
 have k0:s1.tmp 0 = .ptr d g 0:=hk.tmp 0
 have k2:s1.tmp 2 = .sv (.sl m cs):=hk.tmp 2
 have hs0:SessD s1 d g es D:=h.same (hk.hob.trans rfl) (funext fun a=>funext fun b=>(hk.obj a b).trans rfl) (hk.gen.trans rfl)
 have hu:=(hk.keep (T:=TD) (d:=d)).kp
 by_cases hm:256<m
 ·repeat (first|simp only[go_sem,hd',k0,k2]|simp (disch:=first|exact oa|fail) only[AX,hd',k0,k2]|refine wki ?_|refine wqn ?_|refine vpl 16 [] [([0,1,2,3,4,5,6,7,8,10,11,12,13,14,15,16],some (9,[0,1,10,11,12,13,14,15,16])),([],some (17,[0,1])),([18,19],some (20,[1])),([21,22],some (23,[])),([],none)] ?_)
  exact k _ (keep_of (by repeat (first|exact Kp.refl|exact hu|refine Kp.trans ?_ hu|refine Kp.put ?_|refine Kp.setH ?_|refine Kp.newset ?_|refine Kp.set rfl ?_|refine Kp.set (by assumption) ?_|refine Kp.new ?_|refine Kp.grow rfl ?_|refine Kp.frzd rfl ?_|refine Kp.ins rfl ?_))) (hs0.same rfl rfl rfl)
 ·obtain⟨hat,h16⟩:=hlim.resolve_left hm
  have hs1:=hs0
  obtain⟨_,hrow⟩:=hs1
  rcases hrow with⟨rfl,_⟩|⟨dn,gn,dl,gl,en,el,gn1,gl1,ho,hN,hL⟩
  ·simp at h16
  repeat (first|simp only[go_sem,hd',k0,k2,hat,ho,Bool.not_false]|simp (disch:=first|exact oa|fail) only[AX,hd',k0,k2,hat,ho,Bool.not_false]|refine wki ?_|refine wqn ?_|refine vpl 16 [] [([0,1,2,3,4,5,6,7,8,10,11,12,13,14,15,16],some (9,[0,1,10,11,12,13,14,15,16])),([],some (17,[0,1])),([18,19],some (20,[1])),([21,22],some (23,[])),([],none)] ?_)
  exact k _ (keep_of (by repeat (first|exact Kp.refl|exact hu|refine Kp.trans ?_ hu|refine Kp.put ?_|refine Kp.setH ?_|refine Kp.newset ?_|refine Kp.set rfl ?_|refine Kp.set (by assumption) ?_|refine Kp.new ?_|refine Kp.grow rfl ?_|refine Kp.frzd rfl ?_|refine Kp.ins rfl ?_))) (hs0.same rfl rfl rfl)
theorem doc_Set_at {ql:List Rat} {cs:List SV} {L:Nat} (hrow:RowC cs ql L) (hL1:1<=L) (hL:L<=10000) (hm:ql.length<=256) (hn:nameP t=true) (hp:PosAt es t p) (hl:es.length<=100000) (hat:isAt es t p=true) (h:SessD st d g es D)
  (k : ∀st',KeepT TD d st st'->SessD st' d g (es.set p (t,ql.length,rvsC ql)) D->WO CX false ops l (st'.putO dst (.sv (.int .i64 0))) Q) :
  WN CX ops l dst st Q 10 [.ptr d g 0,.sv (.str (bs t)),.sv (.sl ql.length cs)]:=by
 have nm:=ref22_Name t
 rw[hn]at nm
 have hlen:=row_len hrow
 have hd':2000000<=d:=h.ob
 have hple:=hp.le
 refine wni Tryz.f10 ?_;unfold Tryz.f10;simp only[Option.get!_some]
 repeat (first|simp only[go_sem,hd',Bool.not_true]|simp (disch:=first|exact oa|fail) only[AX,hd',Bool.not_true]|refine wki ?_|refine wqn ?_|refine vpl 16 [] [([0,1,2,3,4,5,6,7,8,10,11,12,13,14,15,16],some (9,[0,1,10,11,12,13,14,15,16])),([],some (17,[0,1])),([18,19],some (20,[1])),([21,22],some (23,[])),([],none)] ?_|refine vf_of (by first|exact nm) ?_)
 refine doc_at hp hl (h.same rfl rfl rfl) ?_
 intro s1 hk
 have k0:s1.tmp 0 = .ptr d g 0:=hk.tmp 0
 have k1:s1.tmp 1 = .sv (.str (bs t)):=hk.tmp 1
 have k2:s1.tmp 2 = .sv (.sl ql.length cs):=hk.tmp 2
 have hs0:SessD s1 d g es D:=h.same (hk.hob.trans rfl) (funext fun a=>funext fun b=>(hk.obj a b).trans rfl) (hk.gen.trans rfl)
 have hu:=(hk.keep (T:=TD) (d:=d)).kp
 clear hk h
 have hu:Kp TD d (st.enter [.ptr d g 0,.sv (.str (bs t)),.sv (.sl ql.length cs)]) s1:=(by repeat (first|exact Kp.refl|exact hu|refine Kp.trans ?_ hu|refine Kp.put ?_|refine Kp.setH ?_|refine Kp.newset ?_|refine Kp.set rfl ?_|refine Kp.set (by assumption) ?_|refine Kp.new ?_|refine Kp.grow rfl ?_|refine Kp.frzd rfl ?_|refine Kp.ins rfl ?_))
 obtain⟨_,hrw⟩:=hs0
 have hplt:p<es.length:=by
  have h2:=hat
  unfold isAt at h2
  rw[Bool.and_eq_true]at h2
  exact of_decide_eq_true h2.1
 rcases hrw with⟨rfl,ho⟩|⟨dn,gn,dl,gl,en,el,gn1,gl1,ho,hN,hL'⟩
 ·simp at hplt
 have tdn:TD dn=true:=by rcases en with rfl|rfl<;>rfl
 have tdl:TD dl=true:=by rcases el with rfl|rfl<;>rfl
 have dn50:(dn=50)=False:=eq_false (by omega)
 have dl50:(dl=50)=False:=eq_false (by omega)
 have dn49:(dn=49)=False:=eq_false (by omega)
 have dl49:(dl=49)=False:=eq_false (by omega)
 repeat (first|simp only[go_sem,hd',k0,k1,k2,hat,ho,Bool.not_true]|simp (disch:=first|exact oa|fail) only[AX,hd',k0,k1,k2,hat,ho,Bool.not_true]|refine wki ?_|refine wqn ?_|refine vpl 16 [] [([0,1,2,3,4,5,6,7,8,10,11,12,13,14,15,16],some (9,[0,1,10,11,12,13,14,15,16])),([],some (17,[0,1])),([18,19],some (20,[1])),([21,22],some (23,[])),([],none)] ?_)
 refine vp_loop_inv (fun s=>s.tmp 0 = .ptr d g 0/\s.tmp 1 = .sv (.str (bs t))/\s.tmp 2 = .sv (.sl ql.length cs)/\s.tmp 7 = .sv (.int .i64 (p:Int))/\s.tmp 8 = .sv (.bool true)/\Kp TD d (st.enter [.ptr d g 0,.sv (.str (bs t)),.sv (.sl ql.length cs)]) s /\
   s.hob d g=some [.ref dn gn 1 0 es.length,.ref dl gl 1 0 es.length,.sv (.int .i64 D)]/\s.obj dn gn=some (namC es)/\s.obj dl gl=some (rowL es)/\gn<s.gen dn/\gl<s.gen dl /\
   ∃i:Nat,s.tmp 10 = .sv (.int .i64 (i:Int))/\i<=ql.length/\((i=0/\s.tmp 9 = .nil) \/ ∃g3,0<i/\g3<s.gen 50/\s.tmp 9 = .ref 50 g3 3 0 i/\s.obj 50 g3=some (rvsC (ql.take i))))
  (fun s=>match s.tmp 10 with|.sv (.int _ i)=>ql.length-i.toNat|_=>0) ⟨k0,k1,k2,rfl,rfl,(by repeat (first|exact Kp.refl|exact hu|refine Kp.trans ?_ hu|refine Kp.put ?_|refine Kp.setH ?_|refine Kp.newset ?_|refine Kp.set rfl ?_|refine Kp.set (by assumption) ?_|refine Kp.new ?_|refine Kp.grow rfl ?_|refine Kp.frzd rfl ?_|refine Kp.ins rfl ?_)),ho,hN,hL',gn1,gl1,0,rfl,by omega,.inl ⟨rfl,rfl⟩⟩ ?_
 rintro s ⟨i0,i1,i2,i7,i8,iU,iH,iN,iL,ign,igl,i,i10,hi,hcase⟩
 by_cases hend:i=ql.length
 ·subst hend
  rw[List.take_length]at hcase
  have hnl:=rowL_len es
  have hset:(rowL es).set p (.sl ql.length (rvsC ql))=rowL (es.set p (t,ql.length,rvsC ql)):=by
   unfold rowL
   rw[List.map_set]
  have hsp:List.take p (rowL es)++[SV.sl ql.length (rvsC ql)]++List.drop (p+1) (rowL es)=rowL (es.set p (t,ql.length,rvsC ql)):=by
   rw[<- hset,List.set_eq_take_append_cons_drop,if_pos (by rw[hnl];exact hplt),List.append_assoc]
   rfl
  have hnm:namC (es.set p (t,ql.length,rvsC ql))=namC es:=by
   have hname:=name_at hat
   unfold namC
   rw[List.map_set]
   refine List.ext_getElem? fun j => ?_
   rw[List.getElem?_set]
   split
   ·rename_i e
    subst e
    rw[if_pos (by simpa using hplt),List.getElem?_map,List.getElem?_eq_getElem hplt]
    rw[List.getD_eq_getElem?_getD,List.getElem?_eq_getElem hplt]at hname
    simp only[Option.getD_some]at hname
    simp only[Option.map_some,hname]
   ·rfl
  rcases hcase with⟨h0,i9⟩|⟨g3,h0,hg3,i9,iO⟩
  ·have hq:ql=[]:=List.eq_nil_of_length_eq_zero h0
   subst hq
   repeat (first|simp only[go_sem,hd',i0,i1,i2,i7,i8,i10,i9,iH,iL,hplt,hnl]|simp (disch:=first|exact oa|fail) only[AX,hd',i0,i1,i2,i7,i8,i10,i9,iH,iL,hplt,hnl]|refine wki ?_|refine wqn ?_|refine vpl 16 [] [([0,1,2,3,4,5,6,7,8,10,11,12,13,14,15,16],some (9,[0,1,10,11,12,13,14,15,16])),([],some (17,[0,1])),([18,19],some (20,[1])),([21,22],some (23,[])),([],none)] ?_)
   refine k _ (keep_of (by repeat (first|exact Kp.refl|exact iU|refine Kp.trans ?_ iU|refine Kp.put ?_|refine Kp.setH ?_|refine Kp.newset ?_|refine Kp.set rfl ?_|refine Kp.set (by assumption) ?_|refine Kp.new ?_|refine Kp.grow rfl ?_|refine Kp.frzd rfl ?_|refine Kp.ins rfl ?_))) ?_
   refine⟨hd',.inr ⟨dn,gn,dl,gl,en,el,ign,igl,?_,?_,?_⟩⟩
   ·simp only[hob_leave,hob_put,hob_set]
    rw[iH,List.length_set]
   ·simp only[obj_leave,obj_put,obj_set]
    rw[if_neg (by omega),hnm]
    exact iN
   ·simp only[obj_leave,obj_put,obj_set,and_self,if_true]
    exact congrArg some hsp
  ·have hts:List.take (ql.length*3) (rvsC ql)=rvsC ql:=List.take_of_length_le (by rw[rvsC_len];omega)
   repeat (first|simp only[go_sem,hd',i0,i1,i2,i7,i8,i10,i9,iH,iL,iO,dl50,dn50,hplt,hnl,hts]|simp (disch:=first|exact oa|fail) only[AX,hd',i0,i1,i2,i7,i8,i10,i9,iH,iL,iO,dl50,dn50,hplt,hnl,hts]|refine wki ?_|refine wqn ?_|refine vpl 16 [] [([0,1,2,3,4,5,6,7,8,10,11,12,13,14,15,16],some (9,[0,1,10,11,12,13,14,15,16])),([],some (17,[0,1])),([18,19],some (20,[1])),([21,22],some (23,[])),([],none)] ?_)
   refine k _ (keep_of (by repeat (first|exact Kp.refl|exact iU|refine Kp.trans ?_ iU|refine Kp.put ?_|refine Kp.setH ?_|refine Kp.newset ?_|refine Kp.set rfl ?_|refine Kp.set (by assumption) ?_|refine Kp.new ?_|refine Kp.grow rfl ?_|refine Kp.frzd rfl ?_|refine Kp.ins rfl ?_))) ?_
   refine⟨hd',.inr ⟨dn,gn,dl,gl,en,el,ign,igl,?_,?_,?_⟩⟩
   ·simp only[hob_leave,hob_put,hob_set,hob_frzd]
    rw[iH,List.length_set]
    simp only[Option.map_some,List.map_cons,List.map_nil,TV.frz,dn50,dl50,false_and,if_false]
   ·simp only[obj_leave,obj_put,obj_set,obj_frzd]
    rw[if_neg (by omega),if_neg (by omega),hnm]
    exact iN
   ·simp only[obj_leave,obj_put,obj_set,and_self,if_true]
    exact congrArg some hsp
 ·obtain⟨x,n,dd,rest,hxt,hA⟩:=row_at (i:=i) hrow (by omega)
  have a:=ref2_Norm hA (by omega)
  have hsn:=rvs_snocA (l:=ql) (i:=i) (by omega)
  have hrl:=rvsC_len (ql.take i)
  rw[List.length_take,Nat.min_eq_left (by omega)]at hrl
  rcases hcase with⟨h0,i9⟩|⟨g3,h0,hg3,i9,iO⟩
  ·subst h0
   rw[List.take_zero,rvsC_nil,List.nil_append]at hsn
   rw[Nat.zero_mul,List.drop_zero]at hxt
   subst hxt
   repeat (first|simp only[go_sem,hd',i0,i1,i2,i7,i8,i10,i9,iH,iL,N0,rvC]|simp (disch:=first|exact oa|fail) only[AX,hd',i0,i1,i2,i7,i8,i10,i9,iH,iL,N0,rvC]|refine wki ?_|refine wqn ?_|refine vpl 16 [] [([0,1,2,3,4,5,6,7,8,10,11,12,13,14,15,16],some (9,[0,1,10,11,12,13,14,15,16])),([],some (17,[0,1])),([18,19],some (20,[1])),([21,22],some (23,[])),([],none)] ?_|refine vf_of (by first|exact a) ?_)
   exact⟨⟨(by repeat (first|exact Kp.refl|exact iU|refine Kp.trans ?_ iU|refine Kp.put ?_|refine Kp.setH ?_|refine Kp.newset ?_|refine Kp.set rfl ?_|refine Kp.set (by assumption) ?_|refine Kp.new ?_|refine Kp.grow rfl ?_|refine Kp.frzd rfl ?_|refine Kp.ins rfl ?_)),iN,ign,igl,1,rfl,by omega,.inr ⟨s.gen 50,by omega,by omega,rfl,by rw[if_pos rfl,<- hsn];rfl⟩⟩,by omega⟩
  ·unfold rvC at hsn
   repeat (first|simp only[go_sem,hd',i0,i1,i2,i7,i8,i10,i9,iH,iL,iO,hxt,hlen,N0,hsn,hrl,rvC]|simp (disch:=first|exact oa|fail) only[AX,hd',i0,i1,i2,i7,i8,i10,i9,iH,iL,iO,hxt,hlen,N0,hsn,hrl,rvC]|refine wki ?_|refine wqn ?_|refine vpl 16 [] [([0,1,2,3,4,5,6,7,8,10,11,12,13,14,15,16],some (9,[0,1,10,11,12,13,14,15,16])),([],some (17,[0,1])),([18,19],some (20,[1])),([21,22],some (23,[])),([],none)] ?_|refine vf_of (by first|exact a) ?_)
   exact⟨⟨(by repeat (first|exact Kp.refl|exact iU|refine Kp.trans ?_ iU|refine Kp.put ?_|refine Kp.setH ?_|refine Kp.newset ?_|refine Kp.set rfl ?_|refine Kp.set (by assumption) ?_|refine Kp.new ?_|refine Kp.grow rfl ?_|refine Kp.frzd rfl ?_|refine Kp.ins rfl ?_)),iN,ign,igl,i+1,rfl,by omega,.inr ⟨g3,by omega,hg3,rfl,by rw[if_pos rfl]⟩⟩,by omega⟩
end
end Go.Proofs.YtjphnjffglapgaaGreatDoor
set_option maxHeartbeats 4000000
namespace Go.Proofs.YtjphnjffglapgaaGreatDoor
open Go.Ev
section
variable {ops:Array Oper} {l:List Oper} {dst:Option Nat} {st:St} {Q:St->Prop} {d g p:Nat} {es:List Ent} {t:List UInt8} {D:Int}
theorem doc_Set_new {ql:List Rat} {cs:List SV} {L:Nat} (hrow:RowC cs ql L) (hL1:1<=L) (hL:L<=10000) (hm:ql.length<=256) (hn:nameP t=true) (hp:PosAt es t p) (hl:es.length<=100000) (hat:isAt es t p=false) (hroom:es.length<16) (h:SessD st d g es D)
  (k : ∀st',KeepT TD d st st'->SessD st' d g (insE es p (t,ql.length,rvsC ql)) D->WO CX false ops l (st'.putO dst (.sv (.int .i64 0))) Q) :
  WN CX ops l dst st Q 10 [.ptr d g 0,.sv (.str (bs t)),.sv (.sl ql.length cs)]:=by
 have nm:=ref22_Name t
 rw[hn]at nm
 have hlen:=row_len hrow
 have hd':2000000<=d:=h.ob
 have hple:=hp.le
 refine wni Tryz.f10 ?_;unfold Tryz.f10;simp only[Option.get!_some]
 repeat (first|simp only[go_sem,hd',Bool.not_true]|simp (disch:=first|exact oa|fail) only[AX,hd',Bool.not_true]|refine wki ?_|refine wqn ?_|refine vpl 16 [] [([0,1,2,3,4,5,6,7,8,10,11,12,13,14,15,16],some (9,[0,1,10,11,12,13,14,15,16])),([],some (17,[0,1])),([18,19],some (20,[1])),([21,22],some (23,[])),([],none)] ?_|refine vf_of (by first|exact nm) ?_)
 refine doc_at hp hl (h.same rfl rfl rfl) ?_
 intro s1 hk
 have k0:s1.tmp 0 = .ptr d g 0:=hk.tmp 0
 have k1:s1.tmp 1 = .sv (.str (bs t)):=hk.tmp 1
 have k2:s1.tmp 2 = .sv (.sl ql.length cs):=hk.tmp 2
 have hs0:SessD s1 d g es D:=h.same (hk.hob.trans rfl) (funext fun a=>funext fun b=>(hk.obj a b).trans rfl) (hk.gen.trans rfl)
 have hu:=(hk.keep (T:=TD) (d:=d)).kp
 clear hk h
 have hu:Kp TD d (st.enter [.ptr d g 0,.sv (.str (bs t)),.sv (.sl ql.length cs)]) s1:=(by repeat (first|exact Kp.refl|exact hu|refine Kp.trans ?_ hu|refine Kp.put ?_|refine Kp.setH ?_|refine Kp.newset ?_|refine Kp.set rfl ?_|refine Kp.set (by assumption) ?_|refine Kp.new ?_|refine Kp.grow rfl ?_|refine Kp.frzd rfl ?_|refine Kp.ins rfl ?_))
 obtain⟨_,hrw⟩:=hs0
 rcases hrw with⟨rfl,ho⟩|⟨dn,gn,dl,gl,en,el,gn1,gl1,ho,hN,hL'⟩
 ·have hp0:p=0:=by simpa using hple
  subst hp0
  have d59:(d=59)=False:=eq_false (by omega)
  have d70:(d=70)=False:=eq_false (by omega)
  have s0:SameT (.sv (.sl 0 [])) (.sv (.sl 0 [])) (.sv (.sl 0 []))=True:=st_sl rfl
  repeat (first|simp only[go_sem,hd',k0,k1,k2,hat,ho,Bool.not_true,Bool.not_false]|simp (disch:=first|exact oa|fail) only[AX,hd',k0,k1,k2,hat,ho,Bool.not_true,Bool.not_false]|refine wki ?_|refine wqn ?_|refine vpl 16 [] [([0,1,2,3,4,5,6,7,8,10,11,12,13,14,15,16],some (9,[0,1,10,11,12,13,14,15,16])),([],some (17,[0,1])),([18,19],some (20,[1])),([21,22],some (23,[])),([],none)] ?_)
  refine vp_loop_inv (fun s=>s.tmp 0 = .ptr d g 0/\s.tmp 1 = .sv (.str (bs t))/\s.tmp 2 = .sv (.sl ql.length cs)/\s.tmp 7 = .sv (.int .i64 0)/\s.tmp 8 = .sv (.bool false)/\Kp TD d (st.enter [.ptr d g 0,.sv (.str (bs t)),.sv (.sl ql.length cs)]) s /\
    s.hob d g=some [.nil,.nil,.sv (.int .i64 D)] /\
    ∃i:Nat,s.tmp 10 = .sv (.int .i64 (i:Int))/\i<=ql.length/\((i=0/\s.tmp 9 = .nil) \/ ∃g3,0<i/\g3<s.gen 50/\s.tmp 9 = .ref 50 g3 3 0 i/\s.obj 50 g3=some (rvsC (ql.take i))))
   (fun s=>match s.tmp 10 with|.sv (.int _ i)=>ql.length-i.toNat|_=>0) ⟨k0,k1,k2,rfl,rfl,(by repeat (first|exact Kp.refl|exact hu|refine Kp.trans ?_ hu|refine Kp.put ?_|refine Kp.setH ?_|refine Kp.newset ?_|refine Kp.set rfl ?_|refine Kp.set (by assumption) ?_|refine Kp.new ?_|refine Kp.grow rfl ?_|refine Kp.frzd rfl ?_|refine Kp.ins rfl ?_)),ho,0,rfl,by omega,.inl ⟨rfl,rfl⟩⟩ ?_
  rintro s ⟨i0,i1,i2,i7,i8,iU,iH,i,i10,hi,hcase⟩
  by_cases hend:i=ql.length
  ·subst hend
   rw[List.take_length]at hcase
   rcases hcase with⟨h0,i9⟩|⟨g3,h0,hg3,i9,iO⟩
   ·have hq:ql=[]:=List.eq_nil_of_length_eq_zero h0
    subst hq
    repeat (first|simp only[go_sem,hd',i0,i1,i2,i7,i8,i10,i9,iH,d59,d70,N0,s0,true_or,or_true]|simp (disch:=first|exact oa|fail) only[AX,hd',i0,i1,i2,i7,i8,i10,i9,iH,d59,d70,N0,s0,true_or,or_true]|refine wki ?_|refine wqn ?_|refine vpl 16 [] [([0,1,2,3,4,5,6,7,8,10,11,12,13,14,15,16],some (9,[0,1,10,11,12,13,14,15,16])),([],some (17,[0,1])),([18,19],some (20,[1])),([21,22],some (23,[])),([],none)] ?_)
    refine k _ (keep_of (by repeat (first|exact Kp.refl|exact iU|refine Kp.trans ?_ iU|refine Kp.put ?_|refine Kp.setH ?_|refine Kp.newset ?_|refine Kp.set rfl ?_|refine Kp.set (by assumption) ?_|refine Kp.new ?_|refine Kp.grow rfl ?_|refine Kp.frzd rfl ?_|refine Kp.ins rfl ?_))) ⟨hd',.inr ⟨59,s.gen 59,70,s.gen 70,.inr rfl,.inr rfl,?_,?_,?_,?_,?_⟩⟩
    ·simp only[gen_leave,gen_put,gen_new,gen_grow,gen_setH,gen_frzd,reduceIte,Nat.reduceEqDiff]
     omega
    ·simp only[gen_leave,gen_put,gen_new,gen_grow,gen_setH,gen_frzd,reduceIte,Nat.reduceEqDiff]
     omega
    ·simp only[hob_leave,hob_put,hob_setH,and_self,if_true]
     rfl
    ·simp only[obj_leave,obj_put,obj_setH,obj_grow,obj_new,obj_frzd,gen_put,gen_frzd,gen_setH,gen_grow,gen_new,and_self,reduceIte,Nat.reduceEqDiff,false_and,if_false,if_true]
     rfl
    ·simp only[obj_leave,obj_put,obj_setH,obj_grow,obj_new,obj_frzd,gen_put,gen_frzd,gen_setH,gen_grow,gen_new,and_self,reduceIte,Nat.reduceEqDiff,false_and,if_false,if_true]
     rfl
   ·have hts:List.take (ql.length*3) (rvsC ql)=rvsC ql:=List.take_of_length_le (by rw[rvsC_len];omega)
    repeat (first|simp only[go_sem,hd',i0,i1,i2,i7,i8,i10,i9,iH,d59,d70,N0,s0,true_or,or_true,iO,hts]|simp (disch:=first|exact oa|fail) only[AX,hd',i0,i1,i2,i7,i8,i10,i9,iH,d59,d70,N0,s0,true_or,or_true,iO,hts]|refine wki ?_|refine wqn ?_|refine vpl 16 [] [([0,1,2,3,4,5,6,7,8,10,11,12,13,14,15,16],some (9,[0,1,10,11,12,13,14,15,16])),([],some (17,[0,1])),([18,19],some (20,[1])),([21,22],some (23,[])),([],none)] ?_)
    refine k _ (keep_of (by repeat (first|exact Kp.refl|exact iU|refine Kp.trans ?_ iU|refine Kp.put ?_|refine Kp.setH ?_|refine Kp.newset ?_|refine Kp.set rfl ?_|refine Kp.set (by assumption) ?_|refine Kp.new ?_|refine Kp.grow rfl ?_|refine Kp.frzd rfl ?_|refine Kp.ins rfl ?_))) ⟨hd',.inr ⟨59,s.gen 59,70,s.gen 70,.inr rfl,.inr rfl,?_,?_,?_,?_,?_⟩⟩
    ·simp only[gen_leave,gen_put,gen_new,gen_grow,gen_setH,gen_frzd,reduceIte,Nat.reduceEqDiff]
     omega
    ·simp only[gen_leave,gen_put,gen_new,gen_grow,gen_setH,gen_frzd,reduceIte,Nat.reduceEqDiff]
     omega
    ·simp only[hob_leave,hob_put,hob_setH,and_self,if_true]
     rfl
    ·simp only[obj_leave,obj_put,obj_setH,obj_grow,obj_new,obj_frzd,gen_put,gen_frzd,gen_setH,gen_grow,gen_new,and_self,reduceIte,Nat.reduceEqDiff,false_and,if_false,if_true]
     rfl
    ·simp only[obj_leave,obj_put,obj_setH,obj_grow,obj_new,obj_frzd,gen_put,gen_frzd,gen_setH,gen_grow,gen_new,and_self,reduceIte,Nat.reduceEqDiff,false_and,if_false,if_true]
     rfl
  ·obtain⟨x,n,dd,rest,hxt,hA⟩:=row_at (i:=i) hrow (by omega)
   have a:=ref2_Norm hA (by omega)
   have hsn:=rvs_snocA (l:=ql) (i:=i) (by omega)
   have hrl:=rvsC_len (ql.take i)
   rw[List.length_take,Nat.min_eq_left (by omega)]at hrl
   rcases hcase with⟨h0,i9⟩|⟨g3,h0,hg3,i9,iO⟩
   ·subst h0
    rw[List.take_zero,rvsC_nil,List.nil_append]at hsn
    rw[Nat.zero_mul,List.drop_zero]at hxt
    subst hxt
    repeat (first|simp only[go_sem,hd',i0,i1,i2,i7,i8,i10,i9,iH,N0,rvC]|simp (disch:=first|exact oa|fail) only[AX,hd',i0,i1,i2,i7,i8,i10,i9,iH,N0,rvC]|refine wki ?_|refine wqn ?_|refine vpl 16 [] [([0,1,2,3,4,5,6,7,8,10,11,12,13,14,15,16],some (9,[0,1,10,11,12,13,14,15,16])),([],some (17,[0,1])),([18,19],some (20,[1])),([21,22],some (23,[])),([],none)] ?_|refine vf_of (by first|exact a) ?_)
    exact⟨⟨(by repeat (first|exact Kp.refl|exact iU|refine Kp.trans ?_ iU|refine Kp.put ?_|refine Kp.setH ?_|refine Kp.newset ?_|refine Kp.set rfl ?_|refine Kp.set (by assumption) ?_|refine Kp.new ?_|refine Kp.grow rfl ?_|refine Kp.frzd rfl ?_|refine Kp.ins rfl ?_)),1,rfl,by omega,.inr ⟨s.gen 50,by omega,by omega,rfl,by rw[if_pos rfl,<- hsn];rfl⟩⟩,by omega⟩
   ·unfold rvC at hsn
    repeat (first|simp only[go_sem,hd',i0,i1,i2,i7,i8,i10,i9,iH,iO,hxt,hlen,N0,hsn,hrl,rvC]|simp (disch:=first|exact oa|fail) only[AX,hd',i0,i1,i2,i7,i8,i10,i9,iH,iO,hxt,hlen,N0,hsn,hrl,rvC]|refine wki ?_|refine wqn ?_|refine vpl 16 [] [([0,1,2,3,4,5,6,7,8,10,11,12,13,14,15,16],some (9,[0,1,10,11,12,13,14,15,16])),([],some (17,[0,1])),([18,19],some (20,[1])),([21,22],some (23,[])),([],none)] ?_|refine vf_of (by first|exact a) ?_)
    exact⟨⟨(by repeat (first|exact Kp.refl|exact iU|refine Kp.trans ?_ iU|refine Kp.put ?_|refine Kp.setH ?_|refine Kp.newset ?_|refine Kp.set rfl ?_|refine Kp.set (by assumption) ?_|refine Kp.new ?_|refine Kp.grow rfl ?_|refine Kp.frzd rfl ?_|refine Kp.ins rfl ?_)),i+1,rfl,by omega,.inr ⟨g3,by omega,hg3,rfl,by rw[if_pos rfl]⟩⟩,by omega⟩
 have tdn:TD dn=true:=by rcases en with rfl|rfl<;>rfl
 have tdl:TD dl=true:=by rcases el with rfl|rfl<;>rfl
 have dn50:(dn=50)=False:=eq_false (by omega)
 have dl50:(dl=50)=False:=eq_false (by omega)
 have dn49:(dn=49)=False:=eq_false (by omega)
 have dl49:(dl=49)=False:=eq_false (by omega)
 have dn59 : ∀s:St,gn<s.gen dn->(dn=59/\gn=s.gen 59)=False:=fun s h=>eq_false fun e=>by rw[e.1]at h;omega
 have dl70 : ∀s:St,gl<s.gen dl->(dl=70/\gl=s.gen 70)=False:=fun s h=>eq_false fun e=>by rw[e.1]at h;omega
 have d59:(d=59)=False:=eq_false (by omega)
 have d70:(d=70)=False:=eq_false (by omega)
 have dn68:(dn=68)=False:=eq_false (by omega)
 have dn70:(dn=70)=False:=eq_false (by omega)
 have dn79:(dn=79)=False:=eq_false (by omega)
 have dl59:(dl=59)=False:=eq_false (by omega)
 have dl68:(dl=68)=False:=eq_false (by omega)
 have dl79:(dl=79)=False:=eq_false (by omega)
 repeat (first|simp only[go_sem,hd',k0,k1,k2,hat,ho,Bool.not_true,Bool.not_false]|simp (disch:=first|exact oa|fail) only[AX,hd',k0,k1,k2,hat,ho,Bool.not_true,Bool.not_false]|refine wki ?_|refine wqn ?_|refine vpl 16 [] [([0,1,2,3,4,5,6,7,8,10,11,12,13,14,15,16],some (9,[0,1,10,11,12,13,14,15,16])),([],some (17,[0,1])),([18,19],some (20,[1])),([21,22],some (23,[])),([],none)] ?_)
 refine vp_loop_inv (fun s=>s.tmp 0 = .ptr d g 0/\s.tmp 1 = .sv (.str (bs t))/\s.tmp 2 = .sv (.sl ql.length cs)/\s.tmp 7 = .sv (.int .i64 (p:Int))/\s.tmp 8 = .sv (.bool false)/\Kp TD d (st.enter [.ptr d g 0,.sv (.str (bs t)),.sv (.sl ql.length cs)]) s /\
   s.hob d g=some [.ref dn gn 1 0 es.length,.ref dl gl 1 0 es.length,.sv (.int .i64 D)]/\s.obj dn gn=some (namC es)/\s.obj dl gl=some (rowL es)/\gn<s.gen dn/\gl<s.gen dl /\
   ∃i:Nat,s.tmp 10 = .sv (.int .i64 (i:Int))/\i<=ql.length/\((i=0/\s.tmp 9 = .nil) \/ ∃g3,0<i/\g3<s.gen 50/\s.tmp 9 = .ref 50 g3 3 0 i/\s.obj 50 g3=some (rvsC (ql.take i))))
  (fun s=>match s.tmp 10 with|.sv (.int _ i)=>ql.length-i.toNat|_=>0) ⟨k0,k1,k2,rfl,rfl,(by repeat (first|exact Kp.refl|exact hu|refine Kp.trans ?_ hu|refine Kp.put ?_|refine Kp.setH ?_|refine Kp.newset ?_|refine Kp.set rfl ?_|refine Kp.set (by assumption) ?_|refine Kp.new ?_|refine Kp.grow rfl ?_|refine Kp.frzd rfl ?_|refine Kp.ins rfl ?_)),ho,hN,hL',gn1,gl1,0,rfl,by omega,.inl ⟨rfl,rfl⟩⟩ ?_
 rintro s ⟨i0,i1,i2,i7,i8,iU,iH,iN,iL,ign,igl,i,i10,hi,hcase⟩
 by_cases hend:i=ql.length
 ·subst hend
  rw[List.take_length]at hcase
  have f59:=dn59 s ign
  have f70:=dl70 s igl
  have hnl:=namC_len es
  have hrl:=rowL_len es
  have oT:(List.take p (namC es)).all SV.one=true:=by rw[nam_take];exact one_nam _
  have oD:(List.drop p (namC es)).all SV.one=true:=by rw[nam_drop];exact one_nam _
  have rT:(List.take p (rowL es)).all SV.one=true:=by rw[rowL_take];exact one_row _
  have rD:(List.drop p (rowL es)).all SV.one=true:=by rw[rowL_drop];exact one_row _
  have lT:(List.take p (namC es)).length=p:=by rw[List.length_take,hnl];omega
  have lR:(List.take p (rowL es)).length=p:=by rw[List.length_take,hrl];omega
  have tD:List.take (es.length-p) (List.drop p (namC es))=List.drop p (namC es):=List.take_of_length_le (by rw[List.length_drop,hnl];exact Nat.le_refl _)
  have tR:List.take (es.length-p) (List.drop p (rowL es))=List.drop p (rowL es):=List.take_of_length_le (by rw[List.length_drop,hrl];exact Nat.le_refl _)
  have hil:(insE es p (t,ql.length,rvsC ql)).length=es.length+1:=insE_len hple
  have hNm:namC (insE es p (t,ql.length,rvsC ql))=List.take p (namC es)++[.str (bs t)]++List.drop p (namC es):=by
   rw[nam_take,nam_drop]
   unfold insE namC
   rw[List.map_append,List.map_cons,List.append_assoc]
   rfl
  have hRm:rowL (insE es p (t,ql.length,rvsC ql))=List.take p (rowL es)++[.sl ql.length (rvsC ql)]++List.drop p (rowL es):=by
   rw[rowL_take,rowL_drop]
   unfold insE rowL
   rw[List.map_append,List.map_cons,List.append_assoc]
   rfl
  have tz1:p=0->List.take p (namC es)=[]:=fun e=>by rw[e];rfl
  have tz2:p=0->List.take p (rowL es)=[]:=fun e=>by rw[e];rfl
  have dz1:es.length<=p->List.drop p (namC es)=[]:=fun e=>List.drop_of_length_le (by rw[hnl];omega)
  have dz2:es.length<=p->List.drop p (rowL es)=[]:=fun e=>List.drop_of_length_le (by rw[hrl];omega)
  have s0:SameT (.sv (.sl 0 [])) (.sv (.sl 0 [])) (.sv (.sl 0 []))=True:=st_sl rfl
  rcases hcase with⟨h0,i9⟩|⟨g3,h0,hg3,i9,iO⟩
  ·have hq:ql=[]:=List.eq_nil_of_length_eq_zero h0
   subst hq
   rcases Nat.eq_zero_or_pos p with hp0|hp0
   all_goals rcases Nat.lt_or_ge p es.length with hpn|hpn
   all_goals
    repeat (first|simp only[go_sem,hd',i0,i1,i2,i7,i8,i10,i9,iH,iL,iN,hnl,hrl,f59,f70,d59,d70,dn68,dn70,dn79,dl59,dl68,dl79,oT,oD,rT,rD,lT,lR,tD,tR,N0,s0,true_or,or_true]|simp (disch:=first|exact oa|fail) only[AX,hd',i0,i1,i2,i7,i8,i10,i9,iH,iL,iN,hnl,hrl,f59,f70,d59,d70,dn68,dn70,dn79,dl59,dl68,dl79,oT,oD,rT,rD,lT,lR,tD,tR,N0,s0,true_or,or_true]|refine wki ?_|refine wqn ?_|refine vpl 16 [] [([0,1,2,3,4,5,6,7,8,10,11,12,13,14,15,16],some (9,[0,1,10,11,12,13,14,15,16])),([],some (17,[0,1])),([18,19],some (20,[1])),([21,22],some (23,[])),([],none)] ?_)
    refine k _ (keep_of (by repeat (first|exact Kp.refl|exact iU|refine Kp.trans ?_ iU|refine Kp.put ?_|refine Kp.setH ?_|refine Kp.newset ?_|refine Kp.set rfl ?_|refine Kp.set (by assumption) ?_|refine Kp.new ?_|refine Kp.grow rfl ?_|refine Kp.frzd rfl ?_|refine Kp.ins rfl ?_))) ⟨hd',.inr ⟨59,s.gen 59,70,s.gen 70,.inr rfl,.inr rfl,?_,?_,?_,?_,?_⟩⟩
    ·simp only[gen_leave,gen_put,gen_new,gen_grow,gen_setH,gen_frzd,reduceIte,Nat.reduceEqDiff]
     omega
    ·simp only[gen_leave,gen_put,gen_new,gen_grow,gen_setH,gen_frzd,reduceIte,Nat.reduceEqDiff]
     omega
    ·simp only[hob_leave,hob_put,hob_setH,and_self,if_true]
     rw[hil]
     first|rfl|(rw[show p+1+(es.length-p)=es.length+1 by omega])|(rw[show p+1=es.length+1 by omega])|(rw[show 0+1+(es.length-p)=es.length+1 by omega])|(rw[show es.length+1=0+1 by omega])
    ·simp only[obj_leave,obj_put,obj_setH,obj_grow,obj_new,obj_frzd,gen_put,gen_frzd,gen_setH,gen_grow,gen_new,and_self,reduceIte,Nat.reduceEqDiff,false_and,if_false,if_true]
     rw[hNm]
     all_goals first|rfl|(simp[tz1 hp0,dz1 hpn,rvsC_nil];done)|(simp[tz1 hp0];done)|(simp[dz1 hpn];done)|simp
    ·simp only[obj_leave,obj_put,obj_setH,obj_grow,obj_new,obj_frzd,gen_put,gen_frzd,gen_setH,gen_grow,gen_new,and_self,reduceIte,Nat.reduceEqDiff,false_and,if_false,if_true]
     rw[hRm]
     all_goals first|rfl|(simp[tz2 hp0,dz2 hpn,rvsC_nil];done)|(simp[tz2 hp0,rvsC_nil];done)|(simp[dz2 hpn,rvsC_nil];done)|simp[rvsC_nil]
  ·have hts:List.take (ql.length*3) (rvsC ql)=rvsC ql:=List.take_of_length_le (by rw[rvsC_len];omega)
   rcases Nat.eq_zero_or_pos p with hp0|hp0
   all_goals rcases Nat.lt_or_ge p es.length with hpn|hpn
   all_goals
    repeat (first|simp only[go_sem,hd',i0,i1,i2,i7,i8,i10,i9,iH,iL,iN,hnl,hrl,f59,f70,d59,d70,dn68,dn70,dn79,dl59,dl68,dl79,oT,oD,rT,rD,lT,lR,tD,tR,N0,s0,true_or,or_true,iO,hts,dn50,dl50]|simp (disch:=first|exact oa|fail) only[AX,hd',i0,i1,i2,i7,i8,i10,i9,iH,iL,iN,hnl,hrl,f59,f70,d59,d70,dn68,dn70,dn79,dl59,dl68,dl79,oT,oD,rT,rD,lT,lR,tD,tR,N0,s0,true_or,or_true,iO,hts,dn50,dl50]|refine wki ?_|refine wqn ?_|refine vpl 16 [] [([0,1,2,3,4,5,6,7,8,10,11,12,13,14,15,16],some (9,[0,1,10,11,12,13,14,15,16])),([],some (17,[0,1])),([18,19],some (20,[1])),([21,22],some (23,[])),([],none)] ?_)
    refine k _ (keep_of (by repeat (first|exact Kp.refl|exact iU|refine Kp.trans ?_ iU|refine Kp.put ?_|refine Kp.setH ?_|refine Kp.newset ?_|refine Kp.set rfl ?_|refine Kp.set (by assumption) ?_|refine Kp.new ?_|refine Kp.grow rfl ?_|refine Kp.frzd rfl ?_|refine Kp.ins rfl ?_))) ⟨hd',.inr ⟨59,s.gen 59,70,s.gen 70,.inr rfl,.inr rfl,?_,?_,?_,?_,?_⟩⟩
    ·simp only[gen_leave,gen_put,gen_new,gen_grow,gen_setH,gen_frzd,reduceIte,Nat.reduceEqDiff]
     omega
    ·simp only[gen_leave,gen_put,gen_new,gen_grow,gen_setH,gen_frzd,reduceIte,Nat.reduceEqDiff]
     omega
    ·simp only[hob_leave,hob_put,hob_setH,and_self,if_true]
     rw[hil]
     first|rfl|(rw[show p+1+(es.length-p)=es.length+1 by omega])|(rw[show p+1=es.length+1 by omega])|(rw[show 0+1+(es.length-p)=es.length+1 by omega])|(rw[show es.length+1=0+1 by omega])
    ·simp only[obj_leave,obj_put,obj_setH,obj_grow,obj_new,obj_frzd,gen_put,gen_frzd,gen_setH,gen_grow,gen_new,and_self,reduceIte,Nat.reduceEqDiff,false_and,if_false,if_true]
     rw[hNm]
     all_goals first|rfl|(simp[tz1 hp0,dz1 hpn,rvsC_nil];done)|(simp[tz1 hp0];done)|(simp[dz1 hpn];done)|simp
    ·simp only[obj_leave,obj_put,obj_setH,obj_grow,obj_new,obj_frzd,gen_put,gen_frzd,gen_setH,gen_grow,gen_new,and_self,reduceIte,Nat.reduceEqDiff,false_and,if_false,if_true]
     rw[hRm]
     all_goals first|rfl|(simp[tz2 hp0,dz2 hpn,rvsC_nil];done)|(simp[tz2 hp0,rvsC_nil];done)|(simp[dz2 hpn,rvsC_nil];done)|simp[rvsC_nil]
 ·obtain⟨x,n,dd,rest,hxt,hA⟩:=row_at (i:=i) hrow (by omega)
  have a:=ref2_Norm hA (by omega)
  have hsn:=rvs_snocA (l:=ql) (i:=i) (by omega)
  have hrl:=rvsC_len (ql.take i)
  rw[List.length_take,Nat.min_eq_left (by omega)]at hrl
  rcases hcase with⟨h0,i9⟩|⟨g3,h0,hg3,i9,iO⟩
  ·subst h0
   rw[List.take_zero,rvsC_nil,List.nil_append]at hsn
   rw[Nat.zero_mul,List.drop_zero]at hxt
   subst hxt
   repeat (first|simp only[go_sem,hd',i0,i1,i2,i7,i8,i10,i9,iH,iL,N0,rvC]|simp (disch:=first|exact oa|fail) only[AX,hd',i0,i1,i2,i7,i8,i10,i9,iH,iL,N0,rvC]|refine wki ?_|refine wqn ?_|refine vpl 16 [] [([0,1,2,3,4,5,6,7,8,10,11,12,13,14,15,16],some (9,[0,1,10,11,12,13,14,15,16])),([],some (17,[0,1])),([18,19],some (20,[1])),([21,22],some (23,[])),([],none)] ?_|refine vf_of (by first|exact a) ?_)
   exact⟨⟨(by repeat (first|exact Kp.refl|exact iU|refine Kp.trans ?_ iU|refine Kp.put ?_|refine Kp.setH ?_|refine Kp.newset ?_|refine Kp.set rfl ?_|refine Kp.set (by assumption) ?_|refine Kp.new ?_|refine Kp.grow rfl ?_|refine Kp.frzd rfl ?_|refine Kp.ins rfl ?_)),iN,ign,igl,1,rfl,by omega,.inr ⟨s.gen 50,by omega,by omega,rfl,by rw[if_pos rfl,<- hsn];rfl⟩⟩,by omega⟩
  ·unfold rvC at hsn
   repeat (first|simp only[go_sem,hd',i0,i1,i2,i7,i8,i10,i9,iH,iL,iO,hxt,hlen,N0,hsn,hrl,rvC]|simp (disch:=first|exact oa|fail) only[AX,hd',i0,i1,i2,i7,i8,i10,i9,iH,iL,iO,hxt,hlen,N0,hsn,hrl,rvC]|refine wki ?_|refine wqn ?_|refine vpl 16 [] [([0,1,2,3,4,5,6,7,8,10,11,12,13,14,15,16],some (9,[0,1,10,11,12,13,14,15,16])),([],some (17,[0,1])),([18,19],some (20,[1])),([21,22],some (23,[])),([],none)] ?_|refine vf_of (by first|exact a) ?_)
   exact⟨⟨(by repeat (first|exact Kp.refl|exact iU|refine Kp.trans ?_ iU|refine Kp.put ?_|refine Kp.setH ?_|refine Kp.newset ?_|refine Kp.set rfl ?_|refine Kp.set (by assumption) ?_|refine Kp.new ?_|refine Kp.grow rfl ?_|refine Kp.frzd rfl ?_|refine Kp.ins rfl ?_)),iN,ign,igl,i+1,rfl,by omega,.inr ⟨g3,by omega,hg3,rfl,by rw[if_pos rfl]⟩⟩,by omega⟩
end
end Go.Proofs.YtjphnjffglapgaaGreatDoor
set_option maxHeartbeats 4000000
namespace Go.Proofs.YtjphnjffglapgaaGreatDoor
open Go.Ev
section
variable {ops:Array Oper} {l:List Oper} {dst:Option Nat} {st:St} {Q:St->Prop} {d g p:Nat} {es:List Ent} {t:List UInt8} {D:Int}
theorem doc_Drop_none (hp:PosAt es t p) (hl:es.length<=100000) (hat:isAt es t p=false) (h:SessD st d g es D)
  (k : ∀st',KeepT TD d st st'->SessD st' d g es D->WO CX false ops l (st'.putO dst (.sv (.int .i64 6))) Q) :
  WN CX ops l dst st Q 12 [.ptr d g 0,.sv (.str (bs t))]:=by
 have hd':2000000<=d:=h.ob
 refine wni Tryz.f12 ?_;unfold Tryz.f12;simp only[Option.get!_some]
 repeat (first|simp only[go_sem,hd']|simp (disch:=first|exact oa|fail) only[AX,hd']|refine wki ?_|refine wqn ?_|refine vpl 4 [] [([0,2,3,4,5,6,7,9,10,11,12,13,14,15],some (1,[0,2,3,4,5,6,7,9,10,11,12,13,14,15])),([],some (8,[0,9,10,11,12,13,14,15])),([],some (16,[0])),([17,18],some (19,[])),([],none)] ?_|refine vpl 5 [] [([0,2,3,4,5,6,7,9,10,11,12,13,14,15],some (1,[0,2,3,4,5,6,7,9,10,11,12,13,14,15])),([],some (8,[0,9,10,11,12,13,14,15])),([],some (16,[0])),([17,18],some (19,[])),([],none)] ?_)
 refine doc_at hp hl (h.same rfl rfl rfl) ?_
 intro s1 hk
 have k0:s1.tmp 0 = .ptr d g 0:=hk.tmp 0
 have hs0:SessD s1 d g es D:=h.same (hk.hob.trans rfl) (funext fun a=>funext fun b=>(hk.obj a b).trans rfl) (hk.gen.trans rfl)
 have hu:=(hk.keep (T:=TD) (d:=d)).kp
 repeat (first|simp only[go_sem,hd',k0,hat,Bool.not_false]|simp (disch:=first|exact oa|fail) only[AX,hd',k0,hat,Bool.not_false]|refine wki ?_|refine wqn ?_|refine vpl 4 [] [([0,2,3,4,5,6,7,9,10,11,12,13,14,15],some (1,[0,2,3,4,5,6,7,9,10,11,12,13,14,15])),([],some (8,[0,9,10,11,12,13,14,15])),([],some (16,[0])),([17,18],some (19,[])),([],none)] ?_|refine vpl 5 [] [([0,2,3,4,5,6,7,9,10,11,12,13,14,15],some (1,[0,2,3,4,5,6,7,9,10,11,12,13,14,15])),([],some (8,[0,9,10,11,12,13,14,15])),([],some (16,[0])),([17,18],some (19,[])),([],none)] ?_)
 exact k _ (keep_of (by repeat (first|exact Kp.refl|exact hu|refine Kp.trans ?_ hu|refine Kp.put ?_|refine Kp.setH ?_|refine Kp.newset ?_|refine Kp.set rfl ?_|refine Kp.set (by assumption) ?_|refine Kp.new ?_|refine Kp.grow rfl ?_|refine Kp.frzd rfl ?_|refine Kp.ins rfl ?_))) (hs0.same rfl rfl rfl)
theorem doc_Drop_at (hp:PosAt es t p) (hl:es.length<=100000) (hat:isAt es t p=true) (h:SessD st d g es D)
  (k : ∀st',KeepT TD d st st'->SessD st' d g (es.take p++es.drop (p+1)) D->WO CX false ops l (st'.putO dst (.sv (.int .i64 0))) Q) :
  WN CX ops l dst st Q 12 [.ptr d g 0,.sv (.str (bs t))]:=by
 have hd':2000000<=d:=h.ob
 have hplt:p<es.length:=by
  have h2:=hat
  unfold isAt at h2
  rw[Bool.and_eq_true]at h2
  exact of_decide_eq_true h2.1
 refine wni Tryz.f12 ?_;unfold Tryz.f12;simp only[Option.get!_some]
 repeat (first|simp only[go_sem,hd']|simp (disch:=first|exact oa|fail) only[AX,hd']|refine wki ?_|refine wqn ?_|refine vpl 4 [] [([0,2,3,4,5,6,7,9,10,11,12,13,14,15],some (1,[0,2,3,4,5,6,7,9,10,11,12,13,14,15])),([],some (8,[0,9,10,11,12,13,14,15])),([],some (16,[0])),([17,18],some (19,[])),([],none)] ?_|refine vpl 5 [] [([0,2,3,4,5,6,7,9,10,11,12,13,14,15],some (1,[0,2,3,4,5,6,7,9,10,11,12,13,14,15])),([],some (8,[0,9,10,11,12,13,14,15])),([],some (16,[0])),([17,18],some (19,[])),([],none)] ?_)
 refine doc_at hp hl (h.same rfl rfl rfl) ?_
 intro s hk
 have i0:s.tmp 0 = .ptr d g 0:=hk.tmp 0
 have hs0:SessD s d g es D:=h.same (hk.hob.trans rfl) (funext fun a=>funext fun b=>(hk.obj a b).trans rfl) (hk.gen.trans rfl)
 have hu:=(hk.keep (T:=TD) (d:=d)).kp
 have iU:Kp TD d (st.enter [.ptr d g 0,.sv (.str (bs t))]) s:=(by repeat (first|exact Kp.refl|exact hu|refine Kp.trans ?_ hu|refine Kp.put ?_|refine Kp.setH ?_|refine Kp.newset ?_|refine Kp.set rfl ?_|refine Kp.set (by assumption) ?_|refine Kp.new ?_|refine Kp.grow rfl ?_|refine Kp.frzd rfl ?_|refine Kp.ins rfl ?_))
 clear hk h
 obtain⟨_,hrw⟩:=hs0
 rcases hrw with⟨rfl,ho⟩|⟨dn,gn,dl,gl,en,el,ign,igl,iH,iN,iL⟩
 ·simp at hplt
 have tdn:TD dn=true:=by rcases en with rfl|rfl<;>rfl
 have tdl:TD dl=true:=by rcases el with rfl|rfl<;>rfl
 have f16:(dn=16/\gn=s.gen 16)=False:=eq_false fun e=>by rw[e.1]at ign;omega
 have f35:(dl=35/\gl=s.gen 35)=False:=eq_false fun e=>by rw[e.1]at igl;omega
 have d16:(d=16)=False:=eq_false (by omega)
 have d35:(d=35)=False:=eq_false (by omega)
 have dn35:(dn=35)=False:=eq_false (by omega)
 have dl16:(dl=16)=False:=eq_false (by omega)
 have hnl:=namC_len es
 have hrl:=rowL_len es
 have oT:(List.take p (namC es)).all SV.one=true:=by rw[nam_take];exact one_nam _
 have oD:(List.drop (p+1) (namC es)).all SV.one=true:=by rw[nam_drop];exact one_nam _
 have rT:(List.take p (rowL es)).all SV.one=true:=by rw[rowL_take];exact one_row _
 have rD:(List.drop (p+1) (rowL es)).all SV.one=true:=by rw[rowL_drop];exact one_row _
 have lT:(List.take p (namC es)).length=p:=by rw[List.length_take,hnl];omega
 have lR:(List.take p (rowL es)).length=p:=by rw[List.length_take,hrl];omega
 have tD:List.take (es.length-(p+1)) (List.drop (p+1) (namC es))=List.drop (p+1) (namC es):=List.take_of_length_le (by rw[List.length_drop,hnl];exact Nat.le_refl _)
 have tR:List.take (es.length-(p+1)) (List.drop (p+1) (rowL es))=List.drop (p+1) (rowL es):=List.take_of_length_le (by rw[List.length_drop,hrl];exact Nat.le_refl _)
 have hNm:namC (es.take p++es.drop (p+1))=List.take p (namC es)++List.drop (p+1) (namC es):=by
  rw[nam_take,nam_drop]
  unfold namC
  rw[List.map_append]
 have hRm:rowL (es.take p++es.drop (p+1))=List.take p (rowL es)++List.drop (p+1) (rowL es):=by
  rw[rowL_take,rowL_drop]
  unfold rowL
  rw[List.map_append]
 have hlen:(es.take p++es.drop (p+1)).length=es.length-1:=by rw[List.length_append,List.length_take,List.length_drop];omega
 have tz1:p=0->List.take p (namC es)=[]:=fun e=>by rw[e];rfl
 have tz2:p=0->List.take p (rowL es)=[]:=fun e=>by rw[e];rfl
 have dz1:es.length<=p+1->List.drop (p+1) (namC es)=[]:=fun e=>List.drop_of_length_le (by rw[hnl];omega)
 have dz2:es.length<=p+1->List.drop (p+1) (rowL es)=[]:=fun e=>List.drop_of_length_le (by rw[hrl];omega)
 have s0:SameT (.sv (.sl 0 [])) (.sv (.sl 0 [])) (.sv (.sl 0 []))=True:=st_sl rfl
 rcases Nat.eq_zero_or_pos p with hp0|hp0
 all_goals rcases Nat.lt_or_ge (p+1) es.length with hpn|hpn
 all_goals
  repeat (first|simp only[go_sem,hd',i0,hat,iH,iL,iN,hnl,hrl,f16,f35,d16,d35,dn35,dl16,oT,oD,rT,rD,lT,lR,tD,tR,N0,s0,true_or,or_true,Bool.not_true]|simp (disch:=first|exact oa|fail) only[AX,hd',i0,hat,iH,iL,iN,hnl,hrl,f16,f35,d16,d35,dn35,dl16,oT,oD,rT,rD,lT,lR,tD,tR,N0,s0,true_or,or_true,Bool.not_true]|refine wki ?_|refine wqn ?_|refine vpl 4 [] [([0,2,3,4,5,6,7,9,10,11,12,13,14,15],some (1,[0,2,3,4,5,6,7,9,10,11,12,13,14,15])),([],some (8,[0,9,10,11,12,13,14,15])),([],some (16,[0])),([17,18],some (19,[])),([],none)] ?_|refine vpl 5 [] [([0,2,3,4,5,6,7,9,10,11,12,13,14,15],some (1,[0,2,3,4,5,6,7,9,10,11,12,13,14,15])),([],some (8,[0,9,10,11,12,13,14,15])),([],some (16,[0])),([17,18],some (19,[])),([],none)] ?_)
  refine k _ (keep_of (by repeat (first|exact Kp.refl|exact iU|refine Kp.trans ?_ iU|refine Kp.put ?_|refine Kp.setH ?_|refine Kp.newset ?_|refine Kp.set rfl ?_|refine Kp.set (by assumption) ?_|refine Kp.new ?_|refine Kp.grow rfl ?_|refine Kp.frzd rfl ?_|refine Kp.ins rfl ?_))) ⟨hd',.inr ⟨16,s.gen 16,35,s.gen 35,.inl rfl,.inl rfl,?_,?_,?_,?_,?_⟩⟩
  ·simp only[gen_leave,gen_put,gen_new,gen_grow,gen_setH,reduceIte,Nat.reduceEqDiff]
   omega
  ·simp only[gen_leave,gen_put,gen_new,gen_grow,gen_setH,reduceIte,Nat.reduceEqDiff]
   omega
  ·simp only[hob_leave,hob_put,hob_setH,and_self,if_true]
   rw[hlen]
   first|rfl|(rw[show p+(es.length-(p+1))=es.length-1 by omega])|(rw[show es.length-(p+1)=es.length-1 by omega])|(rw[show p=es.length-1 by omega])|(rw[show es.length-1=0 by omega])
  ·simp only[obj_leave,obj_put,obj_setH,obj_grow,obj_new,gen_put,and_self,reduceIte,Nat.reduceEqDiff,false_and,if_false,if_true]
   rw[hNm]
   all_goals first|rfl|(simp[tz1 hp0,dz1 hpn];done)|(simp[tz1 hp0];done)|(simp[dz1 hpn];done)|simp
  ·simp only[obj_leave,obj_put,obj_setH,obj_grow,obj_new,gen_put,gen_setH,gen_grow,gen_new,and_self,reduceIte,Nat.reduceEqDiff,false_and,if_false,if_true]
   rw[hRm]
   all_goals first|rfl|(simp[tz2 hp0,dz2 hpn];done)|(simp[tz2 hp0];done)|(simp[dz2 hpn];done)|simp
end
end Go.Proofs.YtjphnjffglapgaaGreatDoor
namespace Go.Proofs.YtjphnjffglapgaaGreatDoor
open Go.Ev
def setP (es:List Ent) (t:List UInt8) (p m:Nat) (rs:List SV):Int×List Ent:=
 if nameP t=false then (6,es) else if 256<m\/(isAt es t p=false/\16<=es.length) then (7,es) else if isAt es t p=true then (0,es.set p (t,m,rs)) else (0,insE es p (t,m,rs))
def dropP (es:List Ent) (t:List UInt8) (p:Nat):Int×List Ent:=if isAt es t p=true then (0,es.take p++es.drop (p+1)) else (6,es)
theorem at_lt {es:List Ent} {t:List UInt8} {p:Nat} (h:isAt es t p=true):p<es.length:=by
 unfold isAt at h
 rw[Bool.and_eq_true]at h
 exact of_decide_eq_true h.1
theorem setP_ok {es:List Ent} {t:List UInt8} {p m:Nat} {rs:List SV} (hs:Srt es) (hl:es.length<=16) (hp:PosAt es t p):Srt (setP es t p m rs).2/\(setP es t p m rs).2.length<=16:=by
 unfold setP
 split
 ·exact⟨hs,hl⟩
 ·split
  ·exact⟨hs,hl⟩
  ·rename_i h7
   split
   ·rename_i hat
    exact⟨srt_set hs (name_at hat) (at_lt hat),by rw[List.length_set];exact hl⟩
   ·rename_i hat
    have hat:isAt es t p=false:=by simpa using hat
    refine⟨srt_ins hs hp hat,?_⟩
    show (insE es p (t,m,rs)).length<=16
    rw[insE_len hp.le]
    have : ¬16<=es.length:=fun h=>h7 (.inr ⟨hat,h⟩)
    omega
theorem dropP_ok {es:List Ent} {t:List UInt8} {p:Nat} (hs:Srt es) (hl:es.length<=16):Srt (dropP es t p).2/\(dropP es t p).2.length<=16:=by
 unfold dropP
 split
 ·rename_i hat
  have:=at_lt hat
  exact⟨srt_drop hs p,by show (es.take p++es.drop (p+1)).length<=16;rw[List.length_append,List.length_take,List.length_drop];omega⟩
 ·exact⟨hs,hl⟩
section
variable {ops:Array Oper} {l:List Oper} {dst:Option Nat} {st:St} {Q:St->Prop} {d g p:Nat} {es:List Ent} {t:List UInt8} {D:Int}
theorem sess_Set_is {m:Nat} {cs rs:List SV} (ht:t.length<=1048576) (h16:es.length<=16) (hp:PosAt es t p) (hc:m<=256->Go.Ev.Fn CX 24 [.sl m cs] (.sl m rs)) (h:SessR st d g es D)
  (k : ∀st',Keep d st st'->SessR st' d g (setP es t p m rs).2 D->WO CX false ops l (st'.putO dst (.sv (.int .i64 (setP es t p m rs).1))) Q) :
  WN CX ops l dst st Q 9 [.ptr d g 0,.sv (.str (bs t)),.sv (.sl m cs)]:=by
 unfold setP at k
 cases hn:nameP t with
 |false=>
  rw[hn,if_pos rfl]at k
  exact sess_Set_name ht hn h k
 |true=>
  rw[hn,if_neg (by simp)]at k
  by_cases hm:256<m
  ·rw[if_pos (.inl hm)]at k
   exact sess_Set_long ht hn hp (by omega) hm h k
  ·cases hat:isAt es t p with
   |true=>
    rw[hat,if_neg (by simp[hm]),if_pos rfl]at k
    exact sess_Set_at ht hn hp (by omega) (by omega) hat (hc (by omega)) (.inl rfl) h k
   |false=>
    rw[hat]at k
    by_cases hf:es.length<16
    ·rw[if_neg (by simp[hm];omega),if_neg (by simp)]at k
     exact sess_Set_new ht hn hp hat hf (by omega) (hc (by omega)) (.inl rfl) h k
    ·rw[if_pos (.inr ⟨rfl,by omega⟩)]at k
     exact sess_Set_full ht hn hp (by omega) (by omega) hat (.inl rfl) h k
theorem doc_Set_is {ql:List Rat} {cs:List SV} {L:Nat} (hrow:RowC cs ql L) (hL1:1<=L) (hL:L<=10000) (h16:es.length<=16) (hp:PosAt es t p) (h:SessD st d g es D)
  (k : ∀st',KeepT TD d st st'->SessD st' d g (setP es t p ql.length (rvsC ql)).2 D->WO CX false ops l (st'.putO dst (.sv (.int .i64 (setP es t p ql.length (rvsC ql)).1))) Q) :
  WN CX ops l dst st Q 10 [.ptr d g 0,.sv (.str (bs t)),.sv (.sl ql.length cs)]:=by
 unfold setP at k
 cases hn:nameP t with
 |false=>
  rw[hn,if_pos rfl]at k
  exact doc_Set_name hn h k
 |true=>
  rw[hn,if_neg (by simp)]at k
  by_cases hlim:256<ql.length\/(isAt es t p=false/\16<=es.length)
  ·rw[if_pos hlim]at k
   exact doc_Set_lim hn hp (by omega) hlim h k
  ·rw[if_neg hlim]at k
   have hm:ql.length<=256:=by
    have : ¬256<ql.length:=fun e=>hlim (.inl e)
    omega
   cases hat:isAt es t p with
   |true=>
    rw[hat,if_pos rfl]at k
    exact doc_Set_at hrow hL1 hL hm hn hp (by omega) hat h k
   |false=>
    rw[hat,if_neg (by simp)]at k
    have hr:es.length<16:=by
     have : ¬16<=es.length:=fun e=>hlim (.inr ⟨hat,e⟩)
     omega
    exact doc_Set_new hrow hL1 hL hm hn hp (by omega) hat hr h k
theorem sess_Drop_is (h16:es.length<=16) (hp:PosAt es t p) (h:SessR st d g es D)
  (k : ∀st',Keep d st st'->SessR st' d g (dropP es t p).2 D->WO CX false ops l (st'.putO dst (.sv (.int .i64 (dropP es t p).1))) Q) :
  WN CX ops l dst st Q 11 [.ptr d g 0,.sv (.str (bs t))]:=by
 unfold dropP at k
 cases hat:isAt es t p with
 |true=>
  rw[hat,if_pos rfl]at k
  exact sess_Drop_at hp (by omega) hat h k
 |false=>
  rw[hat,if_neg (by simp)]at k
  exact sess_Drop_none hp (by omega) hat h k
theorem doc_Drop_is (h16:es.length<=16) (hp:PosAt es t p) (h:SessD st d g es D)
  (k : ∀st',KeepT TD d st st'->SessD st' d g (dropP es t p).2 D->WO CX false ops l (st'.putO dst (.sv (.int .i64 (dropP es t p).1))) Q) :
  WN CX ops l dst st Q 12 [.ptr d g 0,.sv (.str (bs t))]:=by
 unfold dropP at k
 cases hat:isAt es t p with
 |true=>
  rw[hat,if_pos rfl]at k
  exact doc_Drop_at hp (by omega) hat h k
 |false=>
  rw[hat,if_neg (by simp)]at k
  exact doc_Drop_none hp (by omega) hat h k
end
end Go.Proofs.YtjphnjffglapgaaGreatDoor
namespace Go.Ev
theorem natD_append (a b:List UInt8):natD (a++b)=natD a*10^b.length+natD b:=by
 have key : ∀ (b:List UInt8) (x:Nat),b.foldl (fun a b=>a*10+(b.toNat-48)) x=x*10^b.length+b.foldl (fun a b=>a*10+(b.toNat-48)) 0:=by
  intro b
  induction b with
  |nil=>intro x;simp
  |cons c b ih=>
   intro x
   rw[List.foldl_cons,List.foldl_cons,ih,ih (0*10+(c.toNat-48)),List.length_cons,Nat.pow_succ,Nat.add_mul,Nat.mul_assoc,Nat.mul_comm 10,Nat.zero_mul,Nat.zero_add,Nat.add_assoc]
 unfold natD
 rw[List.foldl_append,key]
theorem natP_good {l:List UInt8} (h0:l≠[]) (h1:l.length<=400) (h2:digs l=true):natP l=some (natD l):=by
 unfold natP
 rw[if_neg]
 rintro(h|h|h)
 ·exact h0 h
 ·omega
 ·rw[h2]at h;cases h
theorem natP_bad {l:List UInt8} (h2:digs l=false):natP l=none:=by
 unfold natP
 rw[if_pos (.inr (.inr h2))]
theorem natP_nil:natP []=none:=rfl
theorem digs_false {l:List UInt8} {x:UInt8} (h:x∈l) (hx:dig x=false):digs l=false:=by
 cases e:digs l with
 |false=>rfl
 |true=>
  have:=List.all_eq_true.1 e x h
  rw[hx]at this
  cases this
theorem digs_mem {l:List UInt8} {x:UInt8} (h:digs l=true) (hx:x∈l):dig x=true:=List.all_eq_true.1 h x hx
theorem digs_appD (a b:List UInt8):digs (a++b)=(digs a&&digs b):=by unfold digs;rw[List.all_append]
theorem digs_tw (l:List UInt8):digs (l.takeWhile dig)=true:=List.all_eq_true.2 fun x hx=>by
 induction l with
 |nil=>cases hx
 |cons y l ih=>
  rw[List.takeWhile_cons]at hx
  split at hx
  ·rename_i hy
   rcases List.mem_cons.1 hx with rfl|hx
   ·exact hy
   ·exact ih hx
  ·cases hx
theorem dw_head {l:List UInt8} {c:UInt8} {y:List UInt8} (h:l.dropWhile dig=c::y):dig c=false:=by
 have h2:=List.head_dropWhile_not dig (l:=l) (w:=by rw[h];simp)
 simp only[h,List.head_cons]at h2
 simpa using h2
theorem dig_ne {x c:UInt8} (h:dig x=true) (hc:dig c=false):x≠c:=fun e=>by rw[e,hc]at h;cases h
theorem d46:dig 46=false:=rfl
theorem d47:dig 47=false:=rfl
theorem cutL_at {u:List UInt8} {c:UInt8} (h:u.contains c=true):u=frontL c u++c::backL c u:=by
 unfold frontL backL
 induction u with
 |nil=>cases h
 |cons x u ih=>
  rw[List.takeWhile_cons,List.dropWhile_cons]
  by_cases hx:x=c
  ·subst hx
   simp
  ·have hx':(x != c)=true:=by simpa using hx
   rw[hx']
   simp only[if_true]
   have hu:u.contains c=true:=by
    have:=List.contains_iff_mem.1 h
    rcases List.mem_cons.1 this with e|e
    ·exact absurd e.symm hx
    ·exact List.contains_iff_mem.2 e
   rw[List.cons_append,<- ih hu]
theorem front_sub {u:List UInt8} {c x:UInt8} (h:u.contains c=true) (hx:x∈u) (hxc:x≠c):x∈frontL c u++backL c u:=by
 rw[cutL_at h]at hx
 rcases List.mem_append.1 hx with h|h
 ·exact List.mem_append_left _ h
 ·rcases List.mem_cons.1 h with e|h
  ·exact absurd e hxc
  ·exact List.mem_append_right _ h
def docP (l:List UInt8):Option Rat:=
 if (absP l).takeWhile dig=[] then none else
 match (absP l).dropWhile dig with
 | []=>some (mkRat (sgn (negP l) (natD ((absP l).takeWhile dig))) 1)
 |c::y=>if y=[]\/digs y=false\/(c≠46/\c≠47) then none else
  if c=47 then (if natD y=0 then none else some (mkRat (sgn (negP l) (natD ((absP l).takeWhile dig))) (natD y)))
  else some (mkRat (sgn (negP l) (natD ((absP l).takeWhile dig)*10^y.length+natD y)) (10^y.length))
theorem doc_dec {l:List UInt8} (hl:l.length<=400):decP l=docP l:=by
 unfold decP docP
 have hu:(absP l).length<=400:=by
  unfold absP
  split
  ·rw[List.length_tail];omega
  ·exact hl
 generalize absP l=u at *
 generalize negP l=ng
 have hw:=digs_tw u
 have hsplit:u=u.takeWhile dig++u.dropWhile dig:=(List.takeWhile_append_dropWhile).symm
 have hwl:(u.takeWhile dig).length<=u.length:=(List.takeWhile_sublist dig).length_le
 have bad46 : ∀x∈u,dig x=false->x≠46->u.contains 46=true->(match natP (backL 46 u),natP (frontL 46 u++backL 46 u) with
  |some _,some n=>some (mkRat (sgn ng n) (10^(backL 46 u).length))
  |_,_=>none)=none:=by
  intro x hx hd h46 hc
  rw[natP_bad (digs_false (front_sub hc hx h46) hd)]
  split
  ·rename_i h;cases h
  ·rfl
 by_cases hw0:u.takeWhile dig=[]
 ·rw[if_pos hw0]
  cases u with
  |nil=>rfl
  |cons x u' =>
   have hx:dig x=false:=by
    cases e:dig x with
    |false=>rfl
    |true=>rw[List.takeWhile_cons,e]at hw0;simp at hw0
   split
   ·rename_i hc
    split
    ·rfl
    ·rename_i hf
     by_cases hx46:x=46
     ·exfalso
      subst hx46
      exact hf rfl
     ·exact bad46 x List.mem_cons_self hx hx46 hc
   ·have:natP (frontL 47 (x::u'))=none:=by
     by_cases hx47:x=47
     ·subst hx47;rfl
     ·refine natP_bad (digs_false (x:=x) ?_ hx)
      unfold frontL
      rw[List.takeWhile_cons,show (x != 47)=true by simpa using hx47]
      exact List.mem_cons_self
    rw[this]
 ·rw[if_neg hw0]
  cases hr:u.dropWhile dig with
  |nil=>
   rw[hr,List.append_nil]at hsplit
   have hud:digs u=true:=by rw[hsplit];exact hw
   have h46:u.contains 46=false:=contains_false fun b hb=>dig_ne (digs_mem hud hb) d46
   have h47:u.contains 47=false:=contains_false fun b hb=>dig_ne (digs_mem hud hb) d47
   have hf:=(front_all (c:=47) (a:=u) fun b hb=>dig_ne (digs_mem hud hb) d47).1
   rw[h46,h47,hf,if_neg (by simp),if_neg (by simp),<- hsplit,natP_good (by rw[hsplit];exact hw0) hu hud]
   rfl
  |cons c y=>
   have hc:=dw_head hr
   rw[hr]at hsplit
   generalize hW:u.takeWhile dig=w at *
   have hyl:w.length+(y.length+1)<=400:=by
    have:=congrArg List.length hsplit
    rw[List.length_append,List.length_cons]at this
    omega
   have hcu:c∈u:=by rw[hsplit];exact List.mem_append_right _ List.mem_cons_self
   dsimp only
   by_cases c46:c=46
   ·subst c46
    have hcon:u.contains 46=true:=List.contains_iff_mem.2 hcu
    obtain⟨hf,hb⟩:=front_back (c:=46) (a:=w) (b:=y) fun x hx=>dig_ne (digs_mem hw hx) d46
    rw[<- hsplit]at hf hb
    rw[if_pos hcon,hf,hb,if_neg hw0]
    by_cases hy0:y=[]
    ·rw[if_pos (.inl hy0),hy0,natP_nil]
    ·cases hyd:digs y with
     |false=>rw[if_pos (.inr (.inl rfl)),natP_bad hyd]
     |true=>
      rw[natP_good hy0 (by omega) hyd,natP_good (by simp[hw0]) (by rw[List.length_append];omega) (by rw[digs_appD,hw,hyd];rfl),if_neg (by
       rintro(h|h|h)
       ·exact hy0 h
       ·cases h
       ·exact h.1 rfl),if_neg (by decide),natD_append]
   ·by_cases c47:c=47
    ·subst c47
     cases hcon:u.contains 46 with
     |true=>
      have hy46:digs y=false:=by
       have:=List.contains_iff_mem.1 hcon
       rw[hsplit]at this
       rcases List.mem_append.1 this with h|h
       ·exact absurd rfl (dig_ne (digs_mem hw h) d46)
       ·rcases List.mem_cons.1 h with e|h
        ·cases e
        ·exact digs_false h d46
      rw[if_pos (show y=[]\/digs y=false\/((47:UInt8)≠46/\(47:UInt8)≠47) from .inr (.inl hy46))]
      have hb:=bad46 47 hcu d47 (by decide) hcon
      simp only[if_true]
      split
      ·rfl
      ·exact hb
     |false=>
      obtain⟨hf,hb⟩:=front_back (c:=47) (a:=w) (b:=y) fun x hx=>dig_ne (digs_mem hw hx) d47
      rw[<- hsplit]at hf hb
      have h47:u.contains 47=true:=List.contains_iff_mem.2 hcu
      rw[if_neg (by simp),hf,if_pos h47,hb,natP_good hw0 (by omega) hw]
      by_cases hy0:y=[]
      ·rw[if_pos (.inl hy0),hy0,natP_nil]
      ·cases hyd:digs y with
       |false=>rw[if_pos (.inr (.inl rfl)),natP_bad hyd]
       |true=>
        rw[natP_good hy0 (by omega) hyd,if_neg (by
         rintro(h|h|h)
         ·exact hy0 h
         ·cases h
         ·exact h.2 rfl),if_pos rfl]
    ·rw[if_pos (show y=[]\/digs y=false\/(c≠46/\c≠47) from .inr (.inr ⟨c46,c47⟩))]
     cases hcon:u.contains 46 with
     |true=>
      have hb:=bad46 c hcu hc c46 hcon
      simp only[if_true]
      split
      ·rfl
      ·exact hb
     |false=>
      rw[if_neg (by simp)]
      have:natP (frontL 47 u)=none:=by
       refine natP_bad (digs_false (x:=c) ?_ hc)
       rw[hsplit]
       unfold frontL
       have key : ∀w:List UInt8,digs w=true->c∈(w++c::y).takeWhile (· != 47):=by
        intro w
        induction w with
        |nil=>
         intro _
         rw[List.nil_append,List.takeWhile_cons,show (c != 47)=true by simpa using c47]
         exact List.mem_cons_self
        |cons x w ih=>
         intro hxw
         have hx:dig x=true:=digs_mem hxw List.mem_cons_self
         rw[List.cons_append,List.takeWhile_cons,show (x != 47)=true by simpa using dig_ne hx d47]
         simp only[if_true]
         exact List.mem_cons_of_mem _ (ih (List.all_eq_true.2 fun z hz=>digs_mem hxw (List.mem_cons_of_mem _ hz)))
       exact key w hw
      rw[this]
def tailPM (l:List UInt8):List UInt8:=if (l.head?==some 45)||(l.head?==some 43) then l.tail else l
def docE (l:List UInt8):Option Int:=
 if (tailPM l).length<1\/(tailPM l).length>2\/digs (tailPM l)=false then none else
 if natD (tailPM l)<=30 then some (if l.head?=some 45 then - (natD (tailPM l):Int) else (natD (tailPM l):Int)) else none
theorem pm_dig {b:UInt8} (h:isPM b=true):dig b=false:=by
 have key : ∀n:Nat,n<256->isPM (UInt8.ofNat n)=true->dig (UInt8.ofNat n)=false:=by decide +kernel
 have:=key b.toNat b.toNat_lt
 rw[UInt8.ofNat_toNat]at this
 exact this h
theorem dw_len {p:UInt8->Bool} {l:List UInt8}:(l.dropWhile p).length<=l.length:=(List.dropWhile_sublist p).length_le
theorem doc_exp (l:List UInt8):expP l=docE l:=by
 unfold expP docE
 cases l with
 |nil=>rfl
 |cons c s=>
  have hpm:((c::s).head?==some 45||(c::s).head?==some 43)=isPM c:=by
   unfold isPM
   rw[Bool.or_comm]
   simp
  unfold tailPM
  rw[hpm]
  cases hc:isPM c with
  |false=>
   have e:(c::s).dropWhile isPM=c::s:=by rw[List.dropWhile_cons,hc];rfl
   rw[e]
   simp
  |true=>
   have e:(c::s).dropWhile isPM=s.dropWhile isPM:=by rw[List.dropWhile_cons,hc];rfl
   rw[e]
   simp only[if_true,List.tail_cons,List.length_cons]
   have hle:=dw_len (p:=isPM) (l:=s)
   cases s with
   |nil=>rfl
   |cons x r=>
    cases hx:isPM x with
    |false=>
     have e2:(x::r).dropWhile isPM=x::r:=by rw[List.dropWhile_cons,hx];rfl
     rw[e2]
     simp
    |true=>
     have e2:(x::r).dropWhile isPM=r.dropWhile isPM:=by rw[List.dropWhile_cons,hx];rfl
     have hl2:=dw_len (p:=isPM) (l:=r)
     rw[e2,if_pos (.inl (by simp only[List.length_cons];omega)),if_pos (.inr (.inr (digs_false (x:=x) List.mem_cons_self (pm_dig hx))))]
def docN (l:List UInt8):Nat×Rat:=
 if 60<l.length then (3,0) else
 if l.contains 101 then
  match docP (frontL 101 l),docE (backL 101 l) with
  |some q,some k=>if l.contains 47 then (2,0) else (0,q*tenR k)
  |_,_=>(2,0)
 else match docP l with
  |some q=>(0,q)
  |none=>(2,0)
theorem doc_num (l:List UInt8):numP l=docN l:=by
 unfold numP docN
 split
 ·rfl
 ·have h1:(frontL 101 l).length<=l.length:=(List.takeWhile_sublist _).length_le
  rw[doc_dec (l:=frontL 101 l) (by omega),doc_dec (l:=l) (by omega),doc_exp]
  rfl
end Go.Ev
