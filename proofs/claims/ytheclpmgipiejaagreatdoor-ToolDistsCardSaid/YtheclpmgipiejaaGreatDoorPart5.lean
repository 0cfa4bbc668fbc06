/- Part 5 of the proof: the evaluator, contracts of functions and their plain laws (joined by program). No condition. -/
import Derived.Test.YtheclpmgipiejaaGreatDoorPart4
import Derived.KernelRfl
import Derived.Test.YtheclpmgipiejaaGreatDoorProg
import Derived.Lib.SliceRun
import Derived.Lib.Bytealg
import Derived.Lib.Join
import Derived.Lib.SlTrimSet
import Derived.Lib.Atoi
import Derived.Laws.Externs
import Derived.Lib.IndexMore
import Derived.Lib.FieldsP
import Derived.WalkSmall
import Derived.Lib.Overlaps
import Derived.Shelf.Strings.OnBuilder
import Derived.Shelf.Strings.SlTrimAscii
import Derived.Shelf.Strconv.Atoi
import Derived.Shelf.Strings.Cut
import Derived.Shelf.Strings.FieldsFuncAny
import Derived.Shelf.GgClosure.GivesRunes
set_option linter.unusedVariables false
set_option linter.unusedSimpArgs false
set_option maxRecDepth 100000
namespace Go.Ev
section
variable {C:Cx} {ops:Array Oper} {st:St} {Q:St->Prop} {R:Ex->St->Prop}
def WSC (C:Cx) (ops:Array Oper) (L:List Nat) (st:St) (Q:St->Prop):Prop:=
 ∃n s,execC C.P (callN C.P C.X C.mu C.good n) C.mu ops L st=some s/\Q s
def ats1:Option Oper->List Oper->List Oper
 |some o,l=>o::l
 |none,l=>l
def ats (os:List Oper):List Nat->List Oper
 | []=>[]
 |i::r=>ats1 os[i]? (ats os r)
def SameT (a b c:TV):Prop:=a=b/\b=c/\sameTV a a=true
def CKL (C:Cx) (ops:Array Oper) (s1 s2:St) (K:St->Prop):List Nat->Prop
 | []=>K s2
 |k::r=>match ops.toList[k]? with
  |some o=>match o.dst with
   |some t=>WO C false ops [o] s2 (fun s=>SameT (s.tmp t) (s2.tmp t) (s1.tmp t)/\CKL C ops s1 s2 K r)
   |none=>False
  |none=>False
def CKQ (C:Cx) (ops:Array Oper) (s1 s2:St) (K:St->Prop) (t:Nat) (r:List Nat) (s:St):Prop:=SameT (s.tmp t) (s2.tmp t) (s1.tmp t)/\CKL C ops s1 s2 K r
def CK1 (C:Cx) (ops:Array Oper) (s1 s2:St) (K:St->Prop) (o:Option Oper) (r:List Nat):Prop:=match o with
 |some o=>match o.dst with
  |some t=>WO C false ops [o] s2 (CKQ C ops s1 s2 K t r)
  |none=>False
 |none=>False
abbrev Seg:=List Nat×Option (Nat×List Nat)
def WX (C:Cx) (ops:Array Oper) (l:List Oper) (st:St) (Q:St->Prop):Prop:=WO C false ops l st Q
def WSS (C:Cx) (ops:Array Oper) (Q:St->Prop):List Seg->St->Prop
 | [],_=>False
 |(is,none)::_,st=>WX C ops (ats ops.toList is) st Q
 |(is,some (i,ck))::S,st=>WX C ops (ats ops.toList is) st fun s1=>WX C ops (ats ops.toList [i]) s1 fun s2=>CKL C ops s1 s2 (WSS C ops Q S) ck
def WSB (C:Cx) (ops:Array Oper) (Q:St->Prop) (ck:List Nat) (S:List Seg) (s1 s2:St):Prop:=CKL C ops s1 s2 (WSS C ops Q S) ck
def WSA (C:Cx) (ops:Array Oper) (Q:St->Prop) (i:Nat) (ck:List Nat) (S:List Seg) (s1:St):Prop:=WX C ops (ats ops.toList [i]) s1 (WSB C ops Q ck S s1)
def segsI (ops:Array Oper):List Nat->List Nat->List Seg
 | [],acc=>[(acc.reverse,none)]
 |i::r,acc=>match ops[i]? with
  |some o=>if heavyO o then (acc.reverse,some (i,(looseI ops i).filter fun k => !r.contains k))::segsI ops r [] else segsI ops r (i::acc)
  |none=>[]
theorem opl {i:Nat}:ops.toList[i]?=ops[i]?:=by simp
theorem wo_cons {o:Oper} {l:List Oper} (h:WO C false ops (o::l) st Q) : ∃n s1,stepO C.P (callN C.P C.X C.mu C.good n) C.mu false ops o st=some s1/\WO C false ops l s1 Q:=by
 obtain⟨n,s,h,q⟩:=h
 unfold execOps at h
 split at h
 ·rename_i s1 h1
  exact⟨n,s1,h1,n,s,h,q⟩
 ·cases h
theorem wo_nil (h:WO C false ops [] st Q):Q st:=by rw[vo_nil]at h;exact h
theorem wsc_of {i:Nat} {o:Oper} {r:List Nat} {n:Nat} {s1:St} (ho:ops[i]?=some o) (h1:stepO C.P (callN C.P C.X C.mu C.good n) C.mu false ops o st=some s1) (hk:ckAll C.P ops r st s1 (looseI ops i)=true) (h:WSC C ops r s1 Q):WSC C ops (i::r) st Q:=by
 obtain⟨m,s,h2,q⟩:=h
 exact⟨max n m,s,execC_of ho (stepO_mono (callN_mono C.X (Nat.le_max_left n m)) h1) hk (execC_mono (callN_mono C.X (Nat.le_max_right n m)) h2),q⟩
theorem wsc_light : ∀ {is r:List Nat} {st:St},(∀i∈is,∃o,ops[i]?=some o/\heavyO o=false)->WO C false ops (ats ops.toList is) st (fun s=>WSC C ops r s Q)->WSC C ops (is++r) st Q
 | [],r,st,_,h=>wo_nil h
 |i::is,r,st,hl,h=>by
  obtain⟨o,ho,hh⟩:=hl i List.mem_cons_self
  unfold ats at h
  rw[opl,ho]at h
  obtain⟨n,s1,h1,h2⟩:=wo_cons h
  refine wsc_of ho h1 ?_ (wsc_light (fun j hj=>hl j (List.mem_cons_of_mem _ hj)) h2)
  rw[loose_light ho hh]
  rfl
theorem ckl_ok {s1 s2:St} {K:St->Prop} : ∀ {ck:List Nat},(∀k∈ck,∀o,ops[k]?=some o->lookU o=true)->CKL C ops s1 s2 K ck->(∀k∈ck,∃o,ops[k]?=some o/\ckOne C.P ops s1 s2 o=true)/\K s2
 | [],_,h=>⟨fun k hk=>(by cases hk),h⟩
 |k::r,hl,h=>by
  unfold CKL at h
  rw[opl]at h
  cases ho:ops[k]? with
  |none=>rw[ho]at h;exact h.elim
  |some o=>
   rw[ho]at h
   dsimp only at h
   cases hd:o.dst with
   |none=>rw[hd]at h;exact h.elim
   |some t=>
    rw[hd]at h
    obtain⟨n,s,h1,h2⟩:=wo_cons h
    obtain⟨⟨e1,e2,e3⟩,h5⟩:=wo_nil h2
    have hlo:=lookU_light (hl k List.mem_cons_self o ho)
    have h1':=light_call (call':=fun _ _=>none) (mu':=fun _=>false) hlo h1
    obtain⟨a,b⟩:=ckl_ok (fun j hj=>hl j (List.mem_cons_of_mem _ hj)) h5
    refine⟨fun j hj => ?_,b⟩
    rcases List.mem_cons.1 hj with rfl|hj
    ·refine⟨o,ho,?_⟩
     unfold ckOne
     rw[hd,h1']
     dsimp only
     rw[<- e2,<- e1,e3]
     rfl
    ·exact a j hj
theorem segs_ok {Q:St->Prop} : ∀ {L acc:List Nat} {st:St},(∀i∈acc,∃o,ops[i]?=some o/\heavyO o=false)->WSS C ops Q (segsI ops L acc) st->WSC C ops (acc.reverse++L) st Q
 | [],acc,st,ha,h=>by
  unfold segsI WSS WX at h
  refine wsc_light (fun i hi=>ha i (List.mem_reverse.1 hi)) ?_
  obtain⟨n,s,h1,q⟩:=h
  exact⟨n,s,h1,n,s,rfl,q⟩
 |i::r,acc,st,ha,h=>by
  unfold segsI at h
  cases ho:ops[i]? with
  |none=>rw[ho]at h;exact h.elim
  |some o=>
   rw[ho]at h
   dsimp only at h
   split at h
   ·unfold WSS WX at h
    refine wsc_light (fun i hi=>ha i (List.mem_reverse.1 hi)) ?_
    obtain⟨n,s1,h1,h⟩:=h
    refine⟨n,s1,h1,?_⟩
    unfold ats at h
    rw[opl,ho]at h
    obtain⟨n2,s2,h2,h⟩:=wo_cons h
    have h:=wo_nil h
    obtain⟨c1,c2⟩:=ckl_ok (fun k hk o' ho'=>by
     obtain⟨_,p,hp,hu,_⟩:=loose_parts ho (List.mem_filter.1 hk).1
     rw[ho']at hp
     cases hp
     exact hu) h
    refine wsc_of ho h2 ?_ (segs_ok (acc:=[]) (fun i hi=>by cases hi) c2)
    refine List.all_eq_true.2 fun k hk => ?_
    cases hr:r.contains k with
    |true=>rfl
    |false=>
     obtain⟨o',ho',hc⟩:=c1 k (List.mem_filter.2 ⟨hk,by rw[hr];rfl⟩)
     rw[ho']
     exact hc
   ·rename_i hv
    have:=segs_ok (acc:=i::acc) (fun j hj=>by
     rcases List.mem_cons.1 hj with rfl|hj
     ·exact⟨o,ho,by simpa using hv⟩
     ·exact ha j hj) h
    rw[List.reverse_cons,List.append_assoc]at this
    exact this
def WLT (C:Cx) (ops:Array Oper) (S:List Seg) (Q:St->Prop):Option St->Prop
 |some st=>WSS C ops Q S st
 |none=>False
theorem vp_loose {id:Nat} {l:List Nat} {S:List Seg} (h:rootsOf C.P ops=l) (hl:looseR C.mu ops=true) (hS:segsI ops (ordI ops) []=S) (k:WLT C ops S (R .normal) (frzAll st ((l.map st.tmp).filter ownRef))):WP C (.region id ops true) st R:=by
 cases h0:frzAll st ((l.map st.tmp).filter ownRef) with
 |none=>rw[h0]at k;exact k.elim
 |some st0=>
  rw[h0]at k
  subst hS
  obtain⟨n,s,h1,q⟩:=segs_ok (acc:=[]) (fun i hi=>by cases hi) k
  have h1:execC C.P (callN C.P C.X C.mu C.good n) C.mu ops (ordI ops) st0=some s:=h1
  refine⟨n+1,.normal,s,?_,q⟩
  have hp:preFrz C.P true ops st=some st0:=by
   unfold preFrz
   rw[if_pos rfl,h,h0]
  unfold exec
  dsimp only
  rw[hp]
  dsimp only
  rw[hl]
  simp only[Bool.and_self,if_true]
  rw[execC_mono (callN_mono C.X (Nat.le_succ n)) h1]
theorem wlt_some {S:List Seg}:WLT C ops S Q (some st)=WSS C ops Q S st:=_root_.id rfl
theorem wlt_congr {S:List Seg} {x y:Option St} (h:x=y):WLT C ops S Q x=WLT C ops S Q y:=by rw[h]
theorem wss_last {l:List Oper} {is:List Nat} {S:List Seg}:WSS C l.toArray Q ((is,none)::S) st=WX C l.toArray (ats l is) st Q:=_root_.id rfl
theorem wss_cons {l:List Oper} {is ck:List Nat} {i:Nat} {S:List Seg}:WSS C l.toArray Q ((is,some (i,ck))::S) st=WX C l.toArray (ats l is) st (WSA C l.toArray Q i ck S):=_root_.id rfl
theorem wsa_go {l:List Oper} {ck:List Nat} {i:Nat} {S:List Seg}:WSA C l.toArray Q i ck S st=WX C l.toArray (ats l [i]) st (WSB C l.toArray Q ck S st):=_root_.id rfl
theorem wsb_go {ck:List Nat} {S:List Seg} {s1:St}:WSB C ops Q ck S s1 st=CKL C ops s1 st (WSS C ops Q S) ck:=_root_.id rfl
theorem wss_congr {S:List Seg} {st':St} (h:st=st'):WSS C ops Q S st=WSS C ops Q S st':=by rw[h]
theorem wx_congr {l l':List Oper} (h:l=l'):WX C ops l st Q=WX C ops l' st Q:=by rw[h]
theorem wx_cons {o:Oper} {l:List Oper}:WX C ops (o::l) st Q=WO C false ops (o::l) st Q:=_root_.id rfl
theorem wx_nil:WX C ops [] st Q=Q st:=vo_nil
theorem ats_nil {os:List Oper}:ats os []=[]:=_root_.id rfl
theorem ats_cons {os:List Oper} {i:Nat} {r:List Nat}:ats os (i::r)=ats1 os[i]? (ats os r):=_root_.id rfl
theorem ats1_some {o:Oper} {l:List Oper}:ats1 (some o) l=o::l:=_root_.id rfl
theorem ckl_nil {s1 s2:St} {K:St->Prop}:CKL C ops s1 s2 K []=K s2:=_root_.id rfl
theorem ckl_cons {l:List Oper} {s1 s2:St} {k:Nat} {r:List Nat} {K:St->Prop}:CKL C l.toArray s1 s2 K (k::r)=CK1 C l.toArray s1 s2 K l[k]? r:=_root_.id rfl
theorem ckq_go {s1 s2:St} {t:Nat} {r:List Nat} {K:St->Prop}:CKQ C ops s1 s2 K t r st=(SameT (st.tmp t) (s2.tmp t) (s1.tmp t)/\CKL C ops s1 s2 K r):=_root_.id rfl
theorem ckl_congr {s1 s2:St} {L:List Nat} {K:St->Prop} {x:St} (h:s1=x):CKL C ops s1 s2 K L=CKL C ops x s2 K L:=by rw[h]
theorem ck1_congr {s1 s2:St} {K:St->Prop} {r:List Nat} {x y:Option Oper} (h:x=y):CK1 C ops s1 s2 K x r=CK1 C ops s1 s2 K y r:=by rw[h]
theorem ck1_some {s1 s2:St} {K:St->Prop} {r:List Nat} {t:Nat} {op:Op} {ty:TypeId} {pos:String} {af:Array Edge} {g:Option (Nat×Bool)}:CK1 C ops s1 s2 K (some ⟨some t,op,ty,pos,af,g⟩) r=WO C false ops [⟨some t,op,ty,pos,af,g⟩] s2 (CKQ C ops s1 s2 K t r):=_root_.id rfl
theorem st_ptr {d g o:Nat}:SameT (.ptr d g o) (.ptr d g o) (.ptr d g o)=True:=eq_true ⟨rfl,rfl,by simp[sameTV,Nat.beq_refl]⟩
theorem st_ref {d g a b c:Nat}:SameT (.ref d g a b c) (.ref d g a b c) (.ref d g a b c)=True:=eq_true ⟨rfl,rfl,by simp[sameTV,Nat.beq_refl]⟩
theorem st_rfc {d g a b c e:Nat}:SameT (.rfc d g a b c e) (.rfc d g a b c e) (.rfc d g a b c e)=True:=eq_true ⟨rfl,rfl,by simp[sameTV,Nat.beq_refl]⟩
theorem st_nil:SameT .nil .nil .nil=True:=eq_true ⟨rfl,rfl,rfl⟩
theorem st_skip:SameT .skip .skip .skip=True:=eq_true ⟨rfl,rfl,rfl⟩
theorem st_int {k:IntKind} {n:Int}:SameT (.sv (.int k n)) (.sv (.int k n)) (.sv (.int k n))=True:=eq_true ⟨rfl,rfl,by simp[sameTV,sameSV]⟩
theorem st_bool {b:Bool}:SameT (.sv (.bool b)) (.sv (.bool b)) (.sv (.bool b))=True:=eq_true ⟨rfl,rfl,by simp[sameTV,sameSV]⟩
theorem st_str {s:ByteArray}:SameT (.sv (.str s)) (.sv (.str s)) (.sv (.str s))=True:=eq_true ⟨rfl,rfl,by simp[sameTV,sameSV]⟩
theorem st_sl {n:Nat} {cs:List SV} (h:sameL cs cs=true):SameT (.sv (.sl n cs)) (.sv (.sl n cs)) (.sv (.sl n cs))=True:=eq_true ⟨rfl,rfl,by simp[sameTV,sameSV,h]⟩
end
end Go.Ev
namespace Go.Ev
section
variable {C:Cx} {soft:Bool} {ops:Array Oper} {l:List Oper} {st:St} {Q:St->Prop} {R:Ex->St->Prop} {d:Nat} {dst:Option Nat}
def RQ (P:Program) (rs:List ResultVar) (r:SV) (e:Ex) (st:St):Prop:=match e with
 | .exit _=>False
 | .goto _=>False
 |_=>retOf P st rs=some (.sv r)
def RO (st:St) (r:SV) (v:TV):Prop:=outSV st v=some r
def RC (sh:Option (Bool×Nat)) (r:SV) (cs:Option (List SV)):Prop:=match sh,cs with
 |some sh,some cs=>loadC sh cs=some r
 |_,_=>False
def RV (P:Program) (st:St) (r:SV):ResultVar->Prop
 | .tmp t=>RO st r (st.tmp t)
 | .cell a t=>RC (shp P t) r (match st.tmp a with | .ptr d g off=>(st.obj d g).map (·.drop off)|_=>none)
theorem rv_iff {P:Program} {rv:ResultVar} {r:SV}:RV P st r rv ↔ ∃v,resTV P st rv=some v/\outSV st v=some r:=by
 cases rv with
 |tmp t=>simp[RV,RO,resTV]
 |cell a t=>
  unfold RV RC resTV
  constructor
  ·intro h
   dsimp only at h
   split at h
   ·rename_i sh cs hsh hcs
    split at hcs
    ·rename_i d g off ht
     cases ho:st.obj d g with
     |none=>rw[ho]at hcs;cases hcs
     |some cs' =>
      rw[ho]at hcs
      cases hcs
      refine⟨.sv r,?_,rfl⟩
      have h':loadC sh (cs'.drop off)=some r:=h
      simp only[hsh,ht,ho,h',Option.map_some]
    ·cases hcs
   ·exact h.elim
  ·rintro⟨v,h,k⟩
   simp only at h ⊢
   split at h
   ·rename_i sh d g off hsh ht
    rw[hsh,ht]
    split at h
    ·rename_i cs hcs
     simp only[hcs,Option.map_some]
     cases hl:loadC sh (cs.drop off) with
     |none=>rw[hl]at h;cases h
     |some s=>
      rw[hl]at h
      cases h
      cases k
      rfl
    ·cases h
   ·cases h
theorem rq_one {P:Program} {rv:ResultVar} {r:SV}:RQ P [rv] r .ret st=RV P st r rv:=by
 refine propext (Iff.trans ?_ rv_iff.symm)
 show retOf P st [rv]=_↔_
 unfold retOf
 simp only
 constructor
 ·intro h
  split at h
  ·rename_i d g e
   split at h
   ·cases ho:st.obj d g with
    |none=>rw[ho]at h;cases h
    |some cs=>rw[ho]at h;cases h
   ·split at h
    ·split at h
     ·split at h<;>cases h
     ·cases h
    ·cases h
  ·rename_i v _ e
   cases ho:outSV st v with
   |none=>rw[ho]at h;cases h
   |some s=>rw[ho]at h;cases h;exact⟨v,e,ho⟩
  ·cases h
 ·rintro⟨v,e,h⟩
  split
  ·rename_i d g e'
   rw[e]at e'
   cases e'
   simp[outSV]at h
  ·rename_i u _ e'
   rw[e]at e'
   cases e'
   rw[h]
   rfl
  ·rename_i e'
   rw[e]at e'
   cases e'
theorem res_iff {P:Program} {rv:ResultVar} {rs:List ResultVar} {x:SV} {l:List SV}:resSVs P st (rv::rs)=some (x::l)↔RV P st x rv/\resSVs P st rs=some l:=by
 rw[rv_iff]
 conv=>lhs;unfold resSVs
 constructor
 ·intro h
  split at h
  ·rename_i v l' hv hl
   split at h
   ·rename_i s hs
    cases h
    exact⟨⟨v,hv,hs⟩,hl⟩
   ·cases h
  ·cases h
 ·rintro⟨⟨v,hv,hs⟩,hl⟩
  rw[hv,hl]
  simp only[hs]
theorem rq_two {P:Program} {a b:ResultVar} {x y:SV}:RQ P [a,b] (.tup [x,y]) .ret st=(RV P st x a/\RV P st y b):=by
 have e:RQ P [a,b] (.tup [x,y]) .ret st↔resSVs P st [a,b]=some [x,y]:=by
  show Option.map _ _=_↔_
  cases resSVs P st [a,b]<;>simp
 rw[propext e,propext res_iff,propext res_iff]
 simp[resSVs]
theorem rq_three {P:Program} {a b c:ResultVar} {x y z:SV}:RQ P [a,b,c] (.tup [x,y,z]) .ret st=(RV P st x a/\RV P st y b/\RV P st z c):=by
 have e:RQ P [a,b,c] (.tup [x,y,z]) .ret st↔resSVs P st [a,b,c]=some [x,y,z]:=by
  show Option.map _ _=_↔_
  cases resSVs P st [a,b,c]<;>simp
 rw[propext e,propext res_iff,propext res_iff,propext res_iff]
 simp[resSVs]
theorem rq_four {P:Program} {a b c d:ResultVar} {x y z u:SV}:RQ P [a,b,c,d] (.tup [x,y,z,u]) .ret st=(RV P st x a/\RV P st y b/\RV P st z c/\RV P st u d):=by
 have e:RQ P [a,b,c,d] (.tup [x,y,z,u]) .ret st↔resSVs P st [a,b,c,d]=some [x,y,z,u]:=by
  show Option.map _ _=_↔_
  cases resSVs P st [a,b,c,d]<;>simp
 rw[propext e,propext res_iff,propext res_iff,propext res_iff,propext res_iff]
 simp[resSVs]
theorem rv_tmp {P:Program} {r:SV} {t:Nat}:RV P st r (.tmp t)=RO st r (st.tmp t):=_root_.id rfl
theorem rv_cell {P:Program} {r:SV} {a:Nat} {t:TypeId}:RV P st r (.cell a t)=RC (shp P t) r (match st.tmp a with | .ptr d g off=>(st.obj d g).map (·.drop off)|_=>none):=_root_.id rfl
theorem rc_some {sh:Bool×Nat} {r:SV} {cs:List SV}:RC (some sh) r (some cs)=(loadC sh cs=some r):=_root_.id rfl
theorem ro_sv {s r:SV}:RO st r (.sv s)=(s=r):=by simp[RO,outSV]
theorem ro_nil {r:SV}:RO st r .nil=(.sl 0 []=r):=by simp[RO,outSV]
theorem ro_ref {g size off n:Nat} {cs:List SV} {r:SV} (hd:d<N0) (h:st.obj d g=some cs) (k : .sl n ((cs.drop off).take (n*size))=r):RO st r (.ref d g size off n):=by
 simp[RO,outSV,hd,h,k]
theorem stq_sv {args:List SV}:stq (args.map Arg.sv)=none:=by
 cases args with
 |nil=>rfl
 |cons a r=>cases r<;>rfl
theorem Fn.intro {f:FuncId} {fn:Func} {body:Code} {args:List SV} {r:SV} (hf:C.P.funcs[f]?=some fn) (hok:C.good f=true) (hb:fn.body=some body) (hX : ∀ars,C.X f ars=none) (hl:args.length<=fn.ntmps)
  (h:WP C body (argSt (args.map Arg.sv)) (RQ C.P fn.results.toList r)):Fn C f args r:=by
 obtain⟨n,e,st,he,hq⟩:=h
 refine⟨n+1,expOf st (args.map Arg.sv),?_⟩
 have hm:exec C.P (callN C.P C.X C.mu C.good n) C.mu n body (argSt (args.map Arg.sv))=some (e,st):=he
 unfold callN
 rw[stq_sv,hX]
 simp only[hf,hok,hb,if_true]
 rw[if_pos (by simpa using hl),hm]
 cases e with
 |exit i=>exact hq.elim
 |goto i=>exact hq.elim
 |normal=>show Option.map _ (retOf C.P st fn.results.toList)=_;rw[show retOf C.P st fn.results.toList=some (.sv r) from hq];rfl
 |ret=>show Option.map _ (retOf C.P st fn.results.toList)=_;rw[show retOf C.P st fn.results.toList=some (.sv r) from hq];rfl
theorem tmp_arg {args:List Arg} {t:Nat}:(argSt args).tmp t=(match args[t]? with
   |some (.sv s) => .sv s
   |some (.imp _) => .ptr (N0+t) 0 0
   |some (.impref _ size off n) => .ref (N0+t) 0 size off n
   |some (.st _ _ _) => .undef
   |none => .undef):=_root_.id rfl
theorem hob_arg {args:List Arg} {g:Nat}:(argSt args).hob d g=none:=_root_.id rfl
theorem up_arg {args:List Arg} {t:Nat}:(argSt args).up t = .undef:=_root_.id rfl
theorem gen_arg {args:List Arg}:(argSt args).gen d=if 1000000<=d then 1 else 0:=_root_.id rfl
theorem obj_arg {args:List Arg} {g:Nat}:(argSt args).obj d g=if 1000000<=d/\g=0 then (match args[d-1000000]? with
   |some (.imp cs)=>some cs
   |some (.impref cs _ _ _)=>some cs
   |_=>none) else none:=_root_.id rfl
theorem cst_bool {b:Bool}:cst (.bool b) = .sv (.bool b):=_root_.id rfl
theorem cst_int {k:IntKind} {n:Int}:cst (.int k n) = .sv (.int k n):=_root_.id rfl
theorem cst_str {s:ByteArray}:cst (.string s) = .sv (.str s):=_root_.id rfl
theorem cst_ptr:cst (.pointer none) = .sv (.con (.pointer none)):=_root_.id rfl
theorem cst_iface:cst .nilIface = .sv (.con .nilIface):=_root_.id rfl
theorem cst_nil:cst (.slice none 0 0) = .nil:=_root_.id rfl
theorem gdst_nil {j:Nat}:gdst #[] j=none:=_root_.id rfl
theorem gdst_zero {o:Oper} {l:List Oper}:gdst (o::l).toArray 0=o.dst:=_root_.id rfl
theorem gdst_succ {o:Oper} {l:List Oper} {j:Nat}:gdst (o::l).toArray (j+1)=gdst l.toArray j:=by
 simp[gdst]
end
attribute [congr] vt_congr vt2_congr vb_congr vb2_congr vm_congr vm2_congr vo_congr vp_congr vv_congr vs_congr wk_congr wg_congr wg2_congr vr_congr wn_congr wns_congr wl_congr rw_congr rf_congr va_congr vz_congr vy_congr vi_congr vf_congr vc_congr wlt_congr wss_congr wx_congr ckl_congr ck1_congr
attribute [go_sem] wlt_some wss_last wss_cons wsa_go wsb_go ckq_go wx_cons wx_nil ats_nil ats_cons ats1_some ckl_nil ckl_cons ck1_some st_ptr st_ref st_rfc st_nil st_skip st_int st_bool st_str List.filter_cons List.filter_nil ownRef gdst_nil gdst_zero gdst_succ cst_bool cst_int cst_str cst_nil rq_one rq_two rq_three rq_four rv_tmp rv_cell rc_some ro_sv ro_nil Option.some.injEq vp_seq vp_region vo_nil vo_move vo_assign vo_pick vo_build vo_bin vo_un vo_convert vo_extract vo_field vo_fieldAddr vo_indexAddr idxV vo_slice vo_makeFunc vo_nilCheck vp_label vp_goto sc_normal sc_ret sc_exit nx_goto bk_goto cst_ptr cst_iface nilSV ptrSV vo_guard2 wg2_some wg_tt wg_ff wg_tf wg_ft wg_skip vo_len vo_min vo_max lenV vo_load vo_loadS vo_alloc vo_allocS vo_box vo_makeH vo_makeS vo_lit vo_softlit vo_store vo_storeS vo_append vo_copy vo_cap vo_clear vo_call vp_block vp_scope vp_exit vp_skip vp_ret vp_cond
 va_some va_none va_noneS vz_some vy_some frzAll frz_eq tmp_frzd obj_frzd gen_frzd tmp_grow obj_grow gen_grow distinct impIds impArgs expAll
 nx_normal nx_ret nx_exit bk_normal bk_ret bk_exit vb_some vb_none vb2_some vm_some vm_none vm2_some vt_some vt_none vt2_some vv_some vs_some wk_true vc_true vc_false
 putO_some putO_none eval_tmp eval_const eval_func tmp_put obj_put gen_put tmp_new obj_new gen_new tmp_set obj_set gen_set tmp_arg gen_arg obj_arg
 hob_put up_put hob_new up_new hob_set up_set hob_frzd up_frzd hob_grow up_grow tmp_newH obj_newH hob_newH gen_newH up_newH tmp_setH obj_setH gen_setH up_setH hob_setH tmp_enter obj_enter gen_enter hob_enter up_enter tmp_leave up_leave obj_leave gen_leave hob_leave hob_arg up_arg
 slotC_nil slotC_int slotC_sl slotsC slotT isSlV H0 INL rn_ret rf_some frzR_one frzR_nil frzR_two resTs rw_some rl_ret retI resIs resTV optT_some optT_none hget_some List.set_cons_zero List.set_cons_succ
 hard val bldP deskL intSV strSV store loadSt append appendTo copy softLit TV.adr TV.toSV allSV oneAll loadC partC fillC partsSV litC moreOf natTV lenTV loNat hiNat someNat slice3 capTV appendZ clearS TV.noCap sliceV sliceTV binSV unSV cmpSV minSV maxSV splice SV.cells SV.one TV.frz TV.kill
 List.getElem?_cons_zero List.getElem?_cons_succ List.getElem?_nil List.map_cons List.map_nil List.all_cons List.all_nil Bool.and_self Bool.and_true Bool.true_and if_true if_false and_self and_true true_and false_and and_false List.drop_zero List.drop_succ_cons List.length_cons List.length_nil
 List.take_succ_cons List.take_zero List.nil_append List.cons_append List.append_nil Option.map_some Option.map_none Option.isSome_some Option.isSome_none
end Go.Ev
namespace Go.Ev
theorem oa {p:Prop} (h:p:=by first|omega|(simp only[AL,List.length_map];omega)):p:=h
set_option linter.defProp false
def AX:=And.intro AR (And.intro @AL (And.intro @ifT (And.intro @ifF (And.intro @take_all (And.intro @List.length_cons.{0} @List.length_nil.{0})))))
section
variable {C:Cx} {soft:Bool} {ops:Array Oper} {l:List Oper} {st:St} {Q:St->Prop} {R:Ex->St->Prop} {dst:Option Nat}
theorem wki {k:Bool} {s:Option St} (h':WS C soft ops l Q s) (h:k=true:=by kernel_rfl):WK C soft ops l Q k s:=wk_intro h h'
theorem wqn {A B:Prop} (b:B) (h:soloR ops=false:=by kernel_rfl):WQ ops A B:=wq_no h b
theorem vpd (id:Nat) (l:List Nat) (k:WS C true ops ops.toList (R .normal) (frzAll st ((l.map st.tmp).filter ownRef))) (h:rootsOf C.P ops=l:=by kernel_rfl) (hl:looseR C.mu ops=false:=by kernel_rfl):WP C (.region id ops true) st R:=vp_draw h k hl
theorem vpx (l:List Nat) {id:Nat} (k:WS C true ops ops.toList (R .normal) (frzAll st ((l.map st.tmp).filter ownRef))) (h:rootsOf C.P ops=l:=by kernel_rfl) (hl:looseR C.mu ops=false:=by kernel_rfl):WP C (.region id ops true) st R:=vp_draw h k hl
theorem fni {f:FuncId} {args:List SV} {r:SV} (fn:Func) (h:WP C fn.body.get! (argSt (args.map Arg.sv)) (RQ C.P fn.results.toList r)) (hf:C.P.funcs[f]?=some fn:=by kernel_rfl) (hok:C.good f=true:=by kernel_rfl) (hb:fn.body=some fn.body.get!:=by kernel_rfl) (hX : ∀ars,C.X f ars=none:=by exact fun _=>rfl) (hl:args.length<=fn.ntmps:=by exact Nat.le_of_ble_eq_true (by kernel_rfl)):Fn C f args r:=Fn.intro hf hok hb hX hl h
theorem wni {g:FuncId} {vs:List TV} (fn:Func) (h:WP C fn.body.get! (st.enter vs) (RN C ops l dst fn.results.toList Q)) (hf:C.P.funcs[g]?=some fn:=by kernel_rfl) (hok:C.good g=true:=by kernel_rfl) (hb:fn.body=some fn.body.get!:=by kernel_rfl) (hl:vs.length<=fn.ntmps:=by exact Nat.le_of_ble_eq_true (by kernel_rfl)) (hX:C.X g [.st false st vs]=none:=by rfl):WN C ops l dst st Q g vs:=wn_of hf hok hb hl h hX
theorem vpl (id:Nat) (l:List Nat) (S:List Seg) (k:WLT C ops S (R .normal) (frzAll st ((l.map st.tmp).filter ownRef))) (h:rootsOf C.P ops=l:=by kernel_rfl) (hl:looseR C.mu ops=true:=by kernel_rfl) (hS:segsI ops (ordI ops) []=S:=by kernel_rfl):WP C (.region id ops true) st R:=vp_loose h hl hS k
end
end Go.Ev
namespace Go.Proofs.YtheclpmgipiejaaGreatDoor.F
open Go Go.Ev Go.Proofs
theorem shp_3:shp Proofs.Tryz.prog 3=some (false,1):=by kernel_rfl
theorem isInt_3:isInt Proofs.Tryz.prog 3=some IntKind.i64:=by kernel_rfl
theorem hasTy_3:hasTy Proofs.Tryz.prog 3=true:=by kernel_rfl
theorem shp_4:shp Proofs.Tryz.prog 4=some (false,1):=by kernel_rfl
theorem isBool_4:isBool Proofs.Tryz.prog 4=true:=by kernel_rfl
theorem shp_5:shp Proofs.Tryz.prog 5=some (false,1):=by kernel_rfl
theorem zok_5:zok Proofs.Tryz.prog 5=true:=by kernel_rfl
theorem isInt_5:isInt Proofs.Tryz.prog 5=some IntKind.u8:=by kernel_rfl
theorem hasTy_5:hasTy Proofs.Tryz.prog 5=true:=by kernel_rfl
theorem shp_9:shp Proofs.Tryz.prog 9=some (false,1):=by kernel_rfl
theorem zer_9:zer Proofs.Tryz.prog 9=some [SV.str { data:={ toList:=[] } }]:=by kernel_rfl
theorem zok_9:zok Proofs.Tryz.prog 9=true:=by kernel_rfl
theorem isStr_9:isStr Proofs.Tryz.prog 9=true:=by kernel_rfl
theorem elm_22:elm Proofs.Tryz.prog 22=some (9,1,16):=by kernel_rfl
theorem shp_23:shp Proofs.Tryz.prog 23=some (false,1):=by kernel_rfl
theorem elm_23:elm Proofs.Tryz.prog 23=some (54,1,4):=by kernel_rfl
theorem shp_25:shp Proofs.Tryz.prog 25=some (true,3):=by kernel_rfl
theorem zer_25:zer Proofs.Tryz.prog 25=some [SV.bool false,SV.sl 0 [],SV.sl 0 []]:=by kernel_rfl
theorem zerB_25:zerB Proofs.Tryz.prog 25=some [SV.bool false,SV.sl 0 [],SV.sl 0 []]:=by kernel_rfl
theorem zok_25:zok Proofs.Tryz.prog 25=true:=by kernel_rfl
theorem plc_25:plc Proofs.Tryz.prog 25=some [(0,1),(1,1),(2,1)]:=by kernel_rfl
theorem fld_25_0:fld Proofs.Tryz.prog 25 0=some (0,4,1):=by kernel_rfl
theorem fld_25_1:fld Proofs.Tryz.prog 25 1=some (1,23,1):=by kernel_rfl
theorem fld_25_2:fld Proofs.Tryz.prog 25 2=some (2,23,1):=by kernel_rfl
theorem shp_27:shp Proofs.Tryz.prog 27=some (true,9):=by kernel_rfl
theorem zer_27:zer Proofs.Tryz.prog 27=some [SV.int IntKind.i64 0,SV.int IntKind.i64 0,SV.int IntKind.i64 0,SV.bool false,SV.sl 0 [],SV.sl 0 [],SV.bool false,SV.sl 0 [],SV.sl 0 []]:=by kernel_rfl
theorem zerB_27:zerB Proofs.Tryz.prog 27=some [SV.int IntKind.i64 0,SV.int IntKind.i64 0,SV.int IntKind.i64 0,SV.bool false,SV.sl 0 [],SV.sl 0 [],SV.bool false,SV.sl 0 [],SV.sl 0 []]:=by kernel_rfl
theorem plc_27:plc Proofs.Tryz.prog 27=some [(0,1),(1,1),(2,1),(3,3),(6,3)]:=by kernel_rfl
theorem fld_27_0:fld Proofs.Tryz.prog 27 0=some (0,3,1):=by kernel_rfl
theorem fld_27_1:fld Proofs.Tryz.prog 27 1=some (1,3,1):=by kernel_rfl
theorem fld_27_2:fld Proofs.Tryz.prog 27 2=some (2,3,1):=by kernel_rfl
theorem fld_27_3:fld Proofs.Tryz.prog 27 3=some (3,25,3):=by kernel_rfl
theorem fld_27_4:fld Proofs.Tryz.prog 27 4=some (6,25,3):=by kernel_rfl
theorem shp_54:shp Proofs.Tryz.prog 54=some (false,1):=by kernel_rfl
theorem zer_54:zer Proofs.Tryz.prog 54=some [SV.int IntKind.u32 0]:=by kernel_rfl
theorem zok_54:zok Proofs.Tryz.prog 54=true:=by kernel_rfl
theorem isInt_54:isInt Proofs.Tryz.prog 54=some IntKind.u32:=by kernel_rfl
theorem hasTy_54:hasTy Proofs.Tryz.prog 54=true:=by kernel_rfl
theorem shp_58:shp Proofs.Tryz.prog 58=some (false,1):=by kernel_rfl
theorem isPtr_58:isPtr Proofs.Tryz.prog 58=true:=by kernel_rfl
theorem shp_61:shp Proofs.Tryz.prog 61=some (true,1):=by kernel_rfl
theorem zer_61:zer Proofs.Tryz.prog 61=some [SV.con (Value.pointer none)]:=by kernel_rfl
theorem zerB_61:zerB Proofs.Tryz.prog 61=some [SV.con (Value.pointer none)]:=by kernel_rfl
theorem plc_61:plc Proofs.Tryz.prog 61=some [(0,1)]:=by kernel_rfl
theorem fld_61_0:fld Proofs.Tryz.prog 61 0=some (0,58,1):=by kernel_rfl
theorem elm_63:elm Proofs.Tryz.prog 63=some (5,1,1):=by kernel_rfl
theorem isIface_71:isIface Proofs.Tryz.prog 71=true:=by kernel_rfl
theorem isInt_81:isInt Proofs.Tryz.prog 81=some IntKind.u64:=by kernel_rfl
theorem hasTy_81:hasTy Proofs.Tryz.prog 81=true:=by kernel_rfl
theorem isInt_94:isInt Proofs.Tryz.prog 94=some IntKind.u64:=by kernel_rfl
theorem hasTy_94:hasTy Proofs.Tryz.prog 94=true:=by kernel_rfl
theorem shp_97:shp Proofs.Tryz.prog 97=some (false,1):=by kernel_rfl
theorem elm_97:elm Proofs.Tryz.prog 97=some (133,2,40):=by kernel_rfl
theorem fld_99_0:fld Proofs.Tryz.prog 99 0=some (0,97,1):=by kernel_rfl
theorem shp_131:shp Proofs.Tryz.prog 131=some (false,1):=by kernel_rfl
theorem elm_131:elm Proofs.Tryz.prog 131=some (25,3,56):=by kernel_rfl
theorem zok_131:zok Proofs.Tryz.prog 131=true:=by kernel_rfl
theorem shp_133:shp Proofs.Tryz.prog 133=some (true,2):=by kernel_rfl
theorem zer_133:zer Proofs.Tryz.prog 133=some [SV.str { data:={ toList:=[] } },SV.sl 0 []]:=by kernel_rfl
theorem zerB_133:zerB Proofs.Tryz.prog 133=some [SV.str { data:={ toList:=[] } },SV.sl 0 []]:=by kernel_rfl
theorem zok_133:zok Proofs.Tryz.prog 133=true:=by kernel_rfl
theorem plc_133:plc Proofs.Tryz.prog 133=some [(0,1),(1,1)]:=by kernel_rfl
theorem fld_133_0:fld Proofs.Tryz.prog 133 0=some (0,9,1):=by kernel_rfl
theorem fld_133_1:fld Proofs.Tryz.prog 133 1=some (1,131,1):=by kernel_rfl
theorem elm_152:elm Proofs.Tryz.prog 152=some (131,1,24):=by kernel_rfl
attribute [go_sem] shp_3 isInt_3 hasTy_3 shp_4
attribute [go_sem] isBool_4 shp_5 zok_5 isInt_5 hasTy_5
attribute [go_sem] shp_9 zer_9 zok_9
attribute [go_sem] isStr_9
attribute [go_sem] elm_22 shp_23 elm_23
attribute [go_sem] shp_25 zer_25 zerB_25 zok_25 plc_25 fld_25_0 fld_25_1 fld_25_2
attribute [go_sem] shp_27 zer_27 zerB_27 plc_27 fld_27_0 fld_27_1 fld_27_2 fld_27_3 fld_27_4
attribute [go_sem] shp_54 zer_54 zok_54
attribute [go_sem] isInt_54 hasTy_54 shp_58 isPtr_58
attribute [go_sem] shp_61 zer_61 zerB_61 plc_61 fld_61_0
attribute [go_sem] elm_63
attribute [go_sem] isIface_71
attribute [go_sem] isInt_81 hasTy_81
attribute [go_sem] isInt_94
attribute [go_sem] hasTy_94 shp_97 elm_97
attribute [go_sem] fld_99_0
attribute [go_sem] shp_131 elm_131 zok_131
attribute [go_sem] shp_133 zer_133 zerB_133 zok_133 plc_133 fld_133_0 fld_133_1
attribute [go_sem] elm_152
end Go.Proofs.YtheclpmgipiejaaGreatDoor.F
set_option linter.constructorNameAsVariable false
namespace Go.Proofs.YtheclpmgipiejaaGreatDoor
open Go.Ev Go.RowKit Go.WideShapes
theorem trodAll_stays {H:Type} {enc:TypeId×Value->H} {P:Program} (hl:laidOutB P=true) {W W':World} (hb:Below W.heap.size W W') {sp:Nat->Bool} :
  ∀ {ts:List TypeId} {vs:List Value} {ds:List (DataW H)} {ps:List MemPlace},(ts.all fun t=>P.readableRec t&&decide (t<P.types.size))=true->DataW.TrodAll enc P W 0 (fun _=>true) true ts vs ds ps ->
   (∀x∈ps,x.block<W.heap.size)->(∀x∈ps,sp x.block=true)->DataW.TrodAll enc P W' 0 sp true ts vs ds ps:=by
 intro ts
 induction ts with
 |nil=>
  intro vs ds ps _ h _ _
  cases vs<;>cases ds<;>simp_all [DataW.TrodAll]
 |cons t ts ih=>
  intro vs ds ps ht h hlt hs
  cases vs with
  |nil=>simp[DataW.TrodAll]at h
  |cons v vs=>
   cases ds with
   |nil=>simp[DataW.TrodAll]at h
   |cons d ds=>
    obtain⟨p,q,h1,h2,rfl⟩:=h
    rw[List.all_cons,Bool.and_eq_true,Bool.and_eq_true]at ht
    obtain⟨⟨ht1,ht2⟩,ht3⟩:=ht
    refine⟨p,q,WideElems.Trod_stays hl ht1 (of_decide_eq_true ht2) h1 (fun x hx=>hb.same (hlt x (List.mem_append_left _ hx))) (fun x hx=>hs x (List.mem_append_left _ hx)),?_,rfl⟩
    exact ih ht3 h2 (fun x hx=>hlt x (List.mem_append_right _ hx)) (fun x hx=>hs x (List.mem_append_right _ hx))
end Go.Proofs.YtheclpmgipiejaaGreatDoor
namespace Go.Ev
open Go.RowKit
section
variable {P:Program} {w0 w:World} {F I:Nat->Prop} {Z:Zy} {N:Nat} {st:St} {a:Act}
theorem nilcmp_region {call:Callf} (hcall:CallAll P Z.gl call) {id d1 d2 x n:Nat} {cs:List SV} {t t' ty1 ty2:TypeId} {p1 p2:String} {af1 af2:Array Edge} {e:Nat×Nat×Nat} (hto:To w0 F I Z N st a w) (hx:st.tmp x = .sv (.sl n cs))
  (hd1:d1<N) (hd2:d2<N) (he:elm P t=some e) {Q:Exit->Act->World->Prop}
  (hQ : ∀b a' w',(b=true->cs=[])->To w0 F I Z N ((st.put d1 (.sv (.sl n cs))).put d2 (.sv (.bool b))) a' w'->Q .normal a' w') :
  (Code.region id #[⟨some d1,.move (.tmp x),ty1,p1,af1,none⟩,⟨some d2,.binOp .eql t (.tmp d1) (.const (.slice none 0 0)) t',ty2,p2,af2,none⟩] false).wp P Q a w:=by
 obtain⟨β,hr⟩:=hto
 refine wp_region ?_
 show wpOps P _ Q [0,1] a w
 rw[wpOps_cons]
 refine stepO_wpOp (mu:=fun _=>false) (soft:=false) (st':=st.put d1 (.sv (.sl n cs))) hr hcall rfl (fun d e=>by cases e;exact hd1) ?_ (fun a' w' hto => ?_) Q
 ·show some (st.put d1 (st.tmp x))=_
  rw[hx]
 obtain⟨β',hr'⟩:=hto
 rw[wpOps_cons]
 unfold wpOp
 simp only[List.getElem?_toArray,List.getElem?_cons_succ,List.getElem?_cons_zero]
 rw[if_pos (by rfl)]
 have hv:=hr'.tmps d1
 rw[show (st.put d1 (.sv (.sl n cs))).tmp d1 = .sv (.sl n cs) from if_pos rfl]at hv
 obtain⟨e1,e2,e3⟩:=e
 obtain⟨hu,_⟩:=elm_parts he
 have hv':Rep w' (Mut F β' (st.put d1 (.sv (.sl n cs)))) (a'.tmps.getD d1 undef) (.sl n cs):=hv
 obtain⟨A,cap,hval,hcap⟩:=slice_len hv'
 refine .inl (Runs.wp (K:=fun a' w'=>wpOps P _ Q [] a' w') ⟨w',.inl ⟨.bool A.isNone,?_,?_⟩⟩)
 ·have h1:a'.eval (.tmp d1) = .slice A n cap:=hval
  have h2:a'.eval (.const (.slice none 0 0)) = .slice none 0 0:=rfl
  have hg:(eqGuard .eql t (.tmp d1) (.const (.slice none 0 0)) (.slice A n cap) (.slice none 0 0)).run P w' = .ok () w':=by
   unfold eqGuard;split<;>rfl
  simp only[execOp,h1,h2,Sem.run_bind,hg,Lib.run_eql_slice_nil w' t e1 A n cap 0 0 hu,Result.andThen_ok,Sem.run_pure]
 ·show Q .normal _ _
  refine hQ A.isNone _ _ (fun hb => ?_) ⟨β',hr'.putO (dst:=some d2) (t := .sv (.bool A.isNone)) (fun d e=>by cases e;exact hd2) (.bool _) (fun d g e=>by simp[TV.id]at e)⟩
  rw[hval]at hv'
  cases hv' with
  |sl0=>rfl
  |sl=>simp at hb
end
def cloneX (f:FuncId):Callf:=fun g args=>if g=f then match args with
 | [.sv (.sl n cs)]=>if cs.length=n/\oneAll cs=true/\n<=274877906944 then some (.sv (.sl n cs),[none]) else none
 |_=>none
 else none
theorem cloneX_ok {P:Program} {G:List (Nat×Value)} {f:FuncId} {fn:Func} {t ty1 ty2:TypeId} {p1 p2:String} {af1 af2:Array Edge} {i1:Nat} {c0 cT c3:Code} (hf:P.funcs[f]?=some fn) (hok:okFn P fn=true)
  (hb:fn.body=some (.seq c0 (.seq (.seq (.region i1 #[⟨some 3,.move (.tmp 0),ty1,p1,af1,none⟩,⟨some 4,.binOp .eql t (.tmp 3) (.const (.slice none 0 0)) t,ty2,p2,af2,none⟩] false) (.cond (.tmp 4) cT .skip)) c3)))
  (hn:4<fn.ntmps) {e:Nat×Nat×Nat} (he:elm P t=some e)
  (h0 : ∀n cs,∃k st,exec P (fun _ _=>none) (fun _=>false) k c0 (argSt [.sv (.sl n cs)])=some (.normal,st)/\st.tmp 0 = .sv (.sl n cs) /\
   (∃k st',exec P (fun _ _=>none) (fun _=>false) k cT ((st.put 3 (.sv (.sl n cs))).put 4 (.sv (.bool true)))=some (.ret,st')/\retOf P st' fn.results.toList=some (.sv (.sl 0 []))) /\
   (cs.length=n->oneAll cs=true->n<=274877906944 -> ∃call mu k st',CallAll P G call/\exec P call mu k c3 ((st.put 3 (.sv (.sl n cs))).put 4 (.sv (.bool false)))=some (.ret,st')/\retOf P st' fn.results.toList=some (.sv (.sl n cs)))) :
  CallOk P G (cloneX f):=by
 intro g args r exps h
 unfold cloneX at h
 split at h
 ·rename_i hg
  subst hg
  split at h
  ·rename_i n cs
   split at h
   ·rename_i hc
    cases h
    simp only[okFn,Bool.and_eq_true,hb,decide_eq_true_eq]at hok
    obtain⟨⟨⟨hm,hnm⟩,hN⟩,hcode⟩:=hok
    refine fun w F B vals hgl hF hsz hrep hinj => .inl ⟨enters_of hf hnm hb,?_⟩
    have hcall:CallAll P G (fun _ _=>none):=call_none
    have hent:=entry hgl hN (show ([Arg.sv (.sl n cs)]:List Arg).length<=fn.ntmps by simp;omega) hF hsz hrep hinj
    refine calls_of_wp hf hb ?_
    simp only[okCode,Bool.and_eq_true]at hcode
    obtain⟨hc0,⟨_,hcT,_⟩,hc3⟩:=hcode
    obtain⟨k,st,he0,hx,⟨kT,sT,heT,hrT⟩,h3⟩:=h0 n cs
    obtain⟨call3,mu3,k3,s3,hcall3,he3,hr3⟩:=h3 hc.1 hc.2.1 hc.2.2
    have fin : ∀ {st':St},retOf P st' fn.results.toList=some (.sv (.sl n cs)) -> ∀a' w',To w F (impB [.sv (.sl n cs)] B) ⟨B,fun _=>undef,False,G⟩ fn.ntmps st' a' w'->bodyPost P fn (fun e w' => ∃v,e = .returned v/\RetRep w w' F v (.sv (.sl n cs))/\Ext (impB [.sv (.sl n cs)] B) w w' /\ ∀ (i:Nat) (cs':List SV),([none]:List (Option (List SV)))[i]?=some (some cs')->Holds w' F (B i) cs') .ret a' w':=by
     intro st' hret a' w' ⟨β,hr⟩
     obtain⟨v,hv,hrr⟩:=hr.ret hret
     refine⟨hr.defers,v,hv,v,rfl,hrr,hr.ext,fun i cs' hi => ?_⟩
     cases i<;>simp at hi
    refine wp_seq (exec_wp (Z:=⟨B,fun _=>undef,False,G⟩) hcall hm k hc0 ⟨_,hent⟩ he0 fun a1 w1 hto1 => ?_)
    refine wp_seq (wp_seq (nilcmp_region (Z:=⟨B,fun _=>undef,False,G⟩) hcall hto1 hx (by omega) (by omega) he fun b a2 w2 hb2 hto2 => ?_))
    cases b with
    |true=>
     have hcs:=hb2 rfl
     subst hcs
     have hn0:n=0:=by simpa using hc.1.symm
     subst hn0
     obtain⟨β,hr2⟩:=hto2
     have hv4:Rep _ _ (a2.eval (.tmp 4)) (.bool true):=hr2.tmps 4
     refine wp_cond (rep_bool hv4) ?_
     exact exec_wp (Z:=⟨B,fun _=>undef,False,G⟩) hcall hm kT hcT ⟨β,hr2⟩ heT fun a3 w3 hto3=>fin hrT a3 w3 hto3
    |false=>
     have hto2':=hto2
     obtain⟨β,hr2⟩:=hto2
     have hv4:Rep _ _ (a2.eval (.tmp 4)) (.bool false):=hr2.tmps 4
     refine wp_cond (rep_bool hv4) ?_
     refine wp_skip ?_
     exact exec_wp (Z:=⟨B,fun _=>undef,False,G⟩) hcall3 hm k3 hc3 hto2' he3 fun a3 w3 hto3=>fin hr3 a3 w3 hto3
   ·cases h
  ·cases h
 ·cases h
end Go.Ev
namespace Go.Proofs.YtheclpmgipiejaaGreatDoor
open Go.Ev
def nGood:Nat:=372
def notGood:List Nat:=[15,98,193,207,263,277,341,360]
noncomputable def good (f:FuncId):Bool:=Nat.ble 2 f&&Nat.blt f (2+nGood) && !(notGood.any fun g=>Nat.beq g f)
def allOk (P:Program) (n:Nat):Bool:=(List.range n).all fun i=>notGood.any (fun g=>Nat.beq g (i+2))||match P.funcs[i+2]? with
 |some fn=>okFn P fn
 |none=>true
theorem good_of {P:Program} {n:Nat} (h:allOk P n=true) {f:Nat} {fn:Func} (h2:2<=f) (hn:f<2+n) (hb:(notGood.any fun g=>Nat.beq g f)=false) (hf:P.funcs[f]?=some fn):okFn P fn=true:=by
 unfold allOk at h
 have hlt:f-2<n:=by omega
 have:=List.all_eq_true.1 h (f-2) (List.mem_range.2 hlt)
 rw[show f-2+2=f by omega,hf,hb,Bool.false_or]at this
 exact this
theorem good_all:allOk Tryz.prog nGood=true:=by kernel_rfl
theorem good_ok:Go.Ev.Good Tryz.prog good:=by
 intro f fn hg hf
 unfold good at hg
 simp only[Bool.and_eq_true,Nat.ble_eq,Nat.blt_eq,Bool.not_eq_true']at hg
 exact good_of good_all hg.1.1 hg.1.2 hg.2 hf
end Go.Proofs.YtheclpmgipiejaaGreatDoor
namespace Go.Ev
section
variable {C:Cx} {ops:Array Oper} {l:List Oper} {st:St} {Q:St->Prop} {d:Nat}
def FnR (C:Cx) (f:FuncId) (args:List SV) (cs:List SV) (size off n:Nat):Prop := ∃m e,callN C.P C.X C.mu C.good m f (args.map Arg.sv)=some (.row cs size off n,e)
theorem vf_row {g:FuncId} {ss cs:List SV} {size off n:Nat} (h:FnR C g ss cs size off n) (k:WO C false ops l (st.new d cs (.ref d (st.gen d) size off n)) Q):WF C false ops l (some d) st Q g ss:=by
 obtain⟨m,e,hn⟩:=h
 exact⟨m,by rw[hn];exact k⟩
theorem vf_rowS {dst:Option Nat} {g:FuncId} {ss cs:List SV} {size off n:Nat} (h:FnR C g ss cs size off n) (k:WO C true ops l (st.putO dst (.sv (.sl n ((cs.drop off).take (n*size))))) Q):WF C true ops l dst st Q g ss:=by
 obtain⟨m,e,hn⟩:=h
 exact⟨m,by rw[hn];exact k⟩
def RR (P:Program) (rs:List ResultVar) (r:Ret) (e:Ex) (st:St):Prop:=match e with
 | .exit _=>False
 | .goto _=>False
 |_=>retRow P st rs=some r
theorem expOf_sv (st:St) (ars:List SV):expOf st (ars.map Arg.sv)=List.replicate ars.length none:=by
 unfold expOf
 rw[List.length_map]
 refine List.ext_getElem? fun i => ?_
 rw[List.getElem?_map,List.getElem?_replicate]
 rcases Nat.lt_or_ge i ars.length with h|h
 ·rw[List.getElem?_range h,if_pos h,Option.map_some,List.getElem?_map,List.getElem?_eq_getElem h]
  rfl
 ·rw[List.getElem?_eq_none (by simpa using h),if_neg (by omega)]
  rfl
theorem row_intro {f:FuncId} {fn:Func} {body:Code} {args:List SV} {r:Ret} (hf:C.P.funcs[f]?=some fn) (hok:C.good f=true) (hb:fn.body=some body) (hl:args.length<=fn.ntmps)
  (h:WP C body (argSt (args.map Arg.sv)) (RR C.P fn.results.toList r)) : ∃n,rowN C.P C.X C.mu C.good n f (args.map Arg.sv)=some (r,List.replicate args.length none):=by
 obtain⟨n,e,st,he,hq⟩:=h
 refine⟨n,?_⟩
 unfold rowN
 simp only[hf,hok,hb,if_true]
 rw[if_pos (by simpa using hl),he,<- expOf_sv st args]
 cases e with
 |exit i=>exact hq.elim
 |goto i=>exact hq.elim
 |normal=>show Option.map _ (retRow C.P st fn.results.toList)=_;rw[show retRow C.P st fn.results.toList=some r from hq];rfl
 |ret=>show Option.map _ (retRow C.P st fn.results.toList)=_;rw[show retRow C.P st fn.results.toList=some r from hq];rfl
theorem FnI_of {f:FuncId} {fn:Func} {body:Code} {args:List Arg} {T:SV->List (Option (List SV))->Prop} (hf:C.P.funcs[f]?=some fn) (hok:C.good f=true) (hb:fn.body=some body) (hX : ∀ars,C.X f ars=none) (hl:args.length<=fn.ntmps)
  (h:WP C body (argSt args) (fun e s => ∃r exps,T r exps/\RQ C.P fn.results.toList r e s/\expOf s args=exps)) (hst:stq args=none:=by rfl) : ∃r exps,T r exps/\FnI C f args r exps:=by
 obtain⟨n,e,st,he,r,exps,hT,hq,hexp⟩:=h
 refine⟨r,exps,hT,n+1,?_⟩
 unfold callN
 rw[hst,hX]
 simp only[hf,hok,hb,if_true]
 rw[if_pos hl,he,<- hexp]
 cases e with
 |exit i=>exact hq.elim
 |goto i=>exact hq.elim
 |normal=>show Option.map _ (retOf C.P st fn.results.toList)=_;rw[show retOf C.P st fn.results.toList=some (.sv r) from hq];rfl
 |ret=>show Option.map _ (retOf C.P st fn.results.toList)=_;rw[show retOf C.P st fn.results.toList=some (.sv r) from hq];rfl
theorem rr_one {P:Program} {t:Nat} {r:Ret}:RR P [.tmp t] r .ret st=((match st.tmp t with
  | .ref d g size off n=>if d<1000000 then (st.obj d g).map fun cs=>Ret.row cs size off n else none
  |_=>none)=some r):=by
 show (retRow P st [.tmp t]=some r)=_
 unfold retRow resTV
 dsimp only
 generalize st.tmp t=v
 cases v<;>rfl
end
attribute [go_sem] rr_one
end Go.Ev
namespace Go.Ev
theorem tab_row_ok {P:Program} {X:Callf} {mu good:FuncId->Bool} {G:List (Nat×Value)} (hX:TabOk P G X) (hg:Good P good) (X1:Callf)
  (h : ∀g args r exps,X1 g args=some (r,exps)->X g args=some (r,exps)\/(∃n,rowN P X mu good n g args=some (r,exps)) \/ ∃k st vs,args=[.st k st vs]):CallOk P G X1:=by
 intro g args r exps h1
 rcases h g args r exps h1 with h2|⟨n,h2⟩|⟨k,st,vs,rfl⟩
 ·exact hX.ok g args r exps h2
 ·exact rowN_ok hX hg h2
 ·intro w F B vals _ _ _ hrep _
  exact(hrep 0 _ rfl).elim
end Go.Ev
namespace Go.Ev
def bs (l:List UInt8):ByteArray:=⟨l.toArray⟩
theorem bs_data (s:ByteArray):bs s.data.toList=s:=rfl
theorem bs_toList (l:List UInt8):(bs l).data.toList=l:=by simp[bs]
theorem bs_size (l:List UInt8):(bs l).size=l.length:=by simp[bs,ByteArray.size]
theorem bs_get (l:List UInt8) (i:Nat):(bs l)[i]?=l[i]?:=by
 rw[getElem?_def]
 split
 ·rename_i h
  have h':i<l.length:=by rw[<- bs_size];exact h
  rw[List.getElem?_eq_getElem h']
  rfl
 ·rename_i h
  have h' : ¬i<l.length:=by rw[<- bs_size];exact h
  rw[List.getElem?_eq_none (by omega)]
theorem bs_append (a b:List UInt8):bs a++bs b=bs (a++b):=by
 apply ByteArray.ext
 simp[bs]
theorem bs_extract (l:List UInt8) (a b:Nat):(bs l).extract a b=bs ((l.drop a).take (b-a)):=by
 apply ByteArray.ext
 simp[bs]
theorem bs_list (l:List UInt8):(bs l).toList=l:=by
 rw[ByteArray.toList_eq]
 exact bs_toList l
theorem bs_eq {a b:List UInt8}:((bs a).toList==(bs b).toList)=(a==b):=by rw[bs_list,bs_list]
def dgR (n:Nat):List UInt8:=if n=0 then [] else UInt8.ofNat (48+n%10)::dgR (n/10)
termination_by n
theorem dgR_zero:dgR 0=[]:=by rw[dgR];rfl
theorem dgR_pos {n:Nat} (h:n≠0):dgR n=UInt8.ofNat (48+n%10)::dgR (n/10):=by rw[dgR,if_neg h]
def dec (n:Nat):List UInt8:=if n=0 then [48] else (dgR n).reverse
def dig (b:UInt8):Bool:=48<=b.toNat&&b.toNat<=57
def digs (l:List UInt8):Bool:=l.all dig
def natD (l:List UInt8):Nat:=l.foldl (fun a b=>a*10+(b.toNat-48)) 0
def natLE:List UInt8->Nat
 | []=>0
 |b::r=>(b.toNat-48)+10*natLE r
theorem natD_nil:natD []=0:=rfl
theorem natD_snoc (l:List UInt8) (b:UInt8):natD (l++[b])=natD l*10+(b.toNat-48):=by simp[natD]
theorem natD_rev (l:List UInt8):natD l.reverse=natLE l:=by
 induction l with
 |nil=>rfl
 |cons b r ih=>
  rw[List.reverse_cons,natD_snoc,ih,natLE]
  omega
theorem dig_of (n:Nat):(UInt8.ofNat (48+n%10)).toNat=48+n%10:=by
 rw[UInt8.toNat_ofNat']
 omega
theorem dig_ofNat (n:Nat):dig (UInt8.ofNat (48+n%10))=true:=by
 unfold dig
 rw[dig_of]
 simp
 omega
theorem dgR_unique : ∀ {l:List UInt8},digs l=true->(l=[] \/ ∃a b,l=a++[b]/\b≠48)->dgR (natLE l)=l:=by
 intro l
 induction l with
 |nil=>intro _ _;exact dgR_zero
 |cons b r ih=>
  intro hd hz
  unfold digs at hd
  rw[List.all_cons,Bool.and_eq_true]at hd
  have hb:=hd.1
  unfold dig at hb
  simp only[Bool.and_eq_true,decide_eq_true_eq]at hb
  have hr:r=[] \/ ∃a c,r=a++[c]/\c≠48:=by
   rcases hz with h|⟨a,c,h,hc⟩
   ·cases h
   ·cases a with
    |nil=>left;simp at h;exact h.2
    |cons x a=>right;simp at h;exact⟨a,c,h.2,hc⟩
  have hne:natLE (b::r)≠0:=by
   rw[natLE]
   rcases hr with h|⟨a,c,h,hc⟩
   ·subst h
    rcases hz with h|⟨a,c,h,hc⟩
    ·cases h
    ·have:b=c:=by
      cases a with
      |nil=>simpa using h
      |cons x a=>simp at h
     subst this
     have:b.toNat≠48:=fun e=>hc (UInt8.toNat_inj.1 (by rw[e];rfl))
     omega
   ·intro h0
    have h1:natLE r=0:=by omega
    have h2:=ih hd.2 (.inr ⟨a,c,h,hc⟩)
    rw[h1,dgR_zero]at h2
    rw[h]at h2
    simp at h2
  rw[dgR_pos hne,natLE]
  have e1:(b.toNat-48+10*natLE r)%10=b.toNat-48:=by omega
  have e2:(b.toNat-48+10*natLE r)/10=natLE r:=by omega
  rw[e1,e2,ih hd.2 hr]
  congr 1
  apply UInt8.toNat_inj.1
  rw[UInt8.toNat_ofNat']
  omega
theorem natLE_append (a b:List UInt8):natLE (a++b)=natLE a+10^a.length*natLE b:=by
 induction a with
 |nil=>simp[natLE]
 |cons x a ih=>
  rw[List.cons_append,natLE,ih,natLE,List.length_cons,Nat.pow_succ]
  rw[Nat.mul_add,Nat.mul_comm (10^a.length) 10,Nat.mul_assoc]
  omega
theorem natLE_lt {l:List UInt8} (h:digs l=true):natLE l<10^l.length:=by
 induction l with
 |nil=>simp[natLE]
 |cons b r ih=>
  unfold digs at h
  rw[List.all_cons,Bool.and_eq_true]at h
  have hb:=h.1
  unfold dig at hb
  simp only[Bool.and_eq_true,decide_eq_true_eq]at hb
  have:=ih h.2
  rw[natLE,List.length_cons,Nat.pow_succ]
  omega
end Go.Ev
namespace Go.Ev
open Go.RowKit
def CallAt (P:Program) (g:FuncId) (args:List Arg) (r:Ret) (exps:List (Option (List SV))):Prop:=
 ∀ (w:World) (F:Nat->Prop) (B:Nat->Nat) (vals:Array Value),(∀b,F b->b<w.heap.size)->vals.size=args.length ->
  (∀ (i:Nat) (x:Arg),args[i]?=some x->ArgRep w F (vals.getD i undef) (B i) x) ->
  (∀ (i j:Nat) (x y:Arg),args[i]?=some x->args[j]?=some y->isImp x=true->isImp y=true->B i=B j->i=j) ->
  Invk P g vals w fun e w' => ∃v,e = .returned v/\RetRep w w' F v r/\Ext (impB args B) w w' /\ ∀ (i:Nat) (cs:List SV),exps[i]?=some (some cs)->Holds w' F (B i) cs
theorem sv_imp {ss:List SV} {B:Nat->Nat} {b:Nat} : ¬impB (ss.map Arg.sv) B b:=by
 rintro⟨i,x,hx,hi,_⟩
 rw[List.getElem?_map]at hx
 cases hs:ss[i]? with
 |none=>rw[hs]at hx;cases hx
 |some s=>rw[hs]at hx;cases hx;cases hi
theorem ext_below {w w':World} {J:Nat->Prop} (h:Below w.heap.size w w') (hJ : ∀b,¬J b):Ext J w w' :=
 ⟨h.os,h.tape,h.output,h.size,fun b hb _=>h.block b hb,fun b cs ty hb hi _=>(hJ b hi).elim⟩
theorem at_extern {P:Program} {g:FuncId} {ss:List SV} {s:SV} {exps:List (Option (List SV))} (he : ∀i:Nat,exps[i]?≠some (some []) /\ ∀cs,exps[i]?≠some (some cs))
  (h : ∀ (w:World) (F:Nat->Prop) (vals:Array Value),vals.size=ss.length->(∀ (i:Nat) (x:SV),ss[i]?=some x->Rep w F (vals.getD i undef) x) -> ∃v,(callFunc g vals).run P w = .ok (.value v) w/\Rep w F v s) :
  CallAt P g (ss.map Arg.sv) (.sv s) exps:=by
 intro w F B vals hF hsz hrep hinj
 obtain⟨v,hv,hr⟩:=h w F vals (by simpa using hsz) (fun i x hx=>by
  have:=hrep i (.sv x) (by rw[List.getElem?_map,hx];rfl)
  exact this)
 exact .inr ⟨v,hv,v,rfl,hr,ext_below (Below.refl _ _) (fun b=>sv_imp),fun i cs hi=>((he i).2 cs hi).elim⟩
theorem at_calls {P:Program} {g:FuncId} {ss:List SV} {s:SV} {exps:List (Option (List SV))} (hE:Enters P g) (he : ∀i:Nat,exps[i]?≠some (some []) /\ ∀cs,exps[i]?≠some (some cs))
  (h : ∀ (w:World) (F:Nat->Prop) (vals:Array Value),vals.size=ss.length->(∀ (i:Nat) (x:SV),ss[i]?=some x->Rep w F (vals.getD i undef) x)->Calls P g vals w fun e w' => ∃v,e = .returned v/\Rep w' F v s/\Below w.heap.size w w') :
  CallAt P g (ss.map Arg.sv) (.sv s) exps:=by
 intro w F B vals hF hsz hrep hinj
 refine .inl ⟨hE,(h w F vals (by simpa using hsz) (fun i x hx=>hrep i (.sv x) (by rw[List.getElem?_map,hx];rfl))).mono ?_⟩
 rintro e w' ⟨v,rfl,hr,hb⟩
 exact⟨v,rfl,hr,ext_below hb (fun b=>sv_imp),fun i cs hi=>((he i).2 cs hi).elim⟩
theorem none_exps {n:Nat} (i:Nat):(List.replicate n (none:Option (List SV)))[i]?≠some (some []) /\ ∀cs,(List.replicate n (none:Option (List SV)))[i]?≠some (some cs):=by
 constructor
 ·intro h
  rw[List.getElem?_replicate]at h
  split at h<;>simp at h
 ·intro cs h
  rw[List.getElem?_replicate]at h
  split at h<;>simp at h
def xIndex:List Arg->Option (Ret×List (Option (List SV)))
 | [.sv (.str s),.sv (.int .u8 c)]=>some (.sv (.int .i64 (Lib.indexByte s.data.toList c.toNat.toUInt8)),List.replicate 2 none)
 |_=>none
def xCount:List Arg->Option (Ret×List (Option (List SV)))
 | [.sv (.str s),.sv (.int .u8 c)]=>some (.sv (.int .i64 (Lib.countByte s.data.toList c.toNat.toUInt8)),List.replicate 2 none)
 |_=>none
def xCmp:List Arg->Option (Ret×List (Option (List SV)))
 | [.sv (.str a),.sv (.str b)]=>some (.sv (.int .i64 (Lib.compareBytes a.data.toList b.data.toList)),List.replicate 2 none)
 |_=>none
def xTrim:List Arg->Option (Ret×List (Option (List SV)))
 | [.sv (.str s),.sv (.str c)]=>if s.size<=9223372036854775807/\c.size<4294967281/\c.data.toList.all (fun b=>decide (b.toNat<128))=true then some (.sv (.str (bs (Lib.trimS s.data.toList c.data.toList))),List.replicate 2 none) else none
 |_=>none
def xTrimLeft:List Arg->Option (Ret×List (Option (List SV)))
 | [.sv (.str s),.sv (.str c)]=>if c.size<4294967281/\c.data.toList.all (fun b=>decide (b.toNat<128))=true then some (.sv (.str (bs (Lib.trimLeftS s.data.toList c.data.toList))),List.replicate 2 none) else none
 |_=>none
def xAtoi:List Arg->Option (Ret×List (Option (List SV)))
 | [.sv (.str s)]=>match Lib.atoi s.data.toList with
  |some v=>if s.size<=18 then some (.sv (.tup [.int .i64 v,.con .nilIface]),List.replicate 1 none) else none
  |none=>none
 |_=>none
def strsOf:List SV->Option (List (List UInt8))
 | []=>some []
 | .str s::r=>match strsOf r with
  |some l=>some (s.data.toList::l)
  |none=>none
 |_=>none
def xJoin:List Arg->Option (Ret×List (Option (List SV)))
 | [.sv (.sl n cs),.sv (.str sep)]=>match strsOf cs with
  |some xs=>if xs.length=n/\n<=140737488355328/\(Lib.join xs sep.data.toList).length<=140737488355328 then some (.sv (.str (bs (Lib.join xs sep.data.toList))),List.replicate 2 none) else none
  |none=>none
 |_=>none
def splitB (c:UInt8):List UInt8->List (List UInt8)
 | []=>[[]]
 |b::r=>if b==c then []::splitB c r else match splitB c r with
  |x::xs=>(b::x)::xs
  | []=>[[b]]
def strC (l:List UInt8):SV := .str (bs l)
def xGenSplit:List Arg->Option (Ret×List (Option (List SV)))
 | [.sv (.str s),.sv (.str sep),.sv (.int .i64 0),.sv (.int .i64 (-1))]=>match sep.data.toList with
  | [c]=>if s.size<=1048576 then some (.row ((splitB c s.data.toList).map strC) 1 0 (splitB c s.data.toList).length,List.replicate 4 none) else none
  |_=>none
 |_=>none
def xSplit:List Arg->Option (Ret×List (Option (List SV)))
 | [.sv (.str s),.sv (.str sep)]=>match sep.data.toList with
  | [c]=>if s.size<=1048576 then some (.row ((splitB c s.data.toList).map strC) 1 0 (splitB c s.data.toList).length,List.replicate 2 none) else none
  |_=>none
 |_=>none
section
variable {P:Program} {g:FuncId} {fn:Func} {args:List Arg} {r:Ret} {exps:List (Option (List SV))}
theorem rep_str2 {w:World} {F:Nat->Prop} {vals:Array Value} {s:ByteArray} {x:SV} (hsz:vals.size=2) (h : ∀ (i:Nat) (y:SV),[SV.str s,x][i]?=some y->Rep w F (vals.getD i undef) y) : ∃v,vals = #[.string s,v]/\Rep w F v x:=by
 have h0:=h 0 _ rfl
 have h1:=h 1 _ rfl
 obtain⟨l⟩:=vals
 match l,hsz,h0,h1 with
 | [a,b],_,h0,h1=>
  have h0:Rep w F a (.str s):=h0
  have h1:Rep w F b x:=h1
  rw[rep_str h0]
  exact⟨b,rfl,h1⟩
theorem index_at (hf : P.funcs[g]? = some fn) (hname : (fn.name == "runtime.NumGoroutine") = false) (hb : fn.body.isNone = true) (hn : Extern.findNext fn = none) (he : Extern.find fn = some Extern.BytealgIndexByte.indexByte)
  (h:xIndex args=some (r,exps)):CallAt P g args r exps:=by
 unfold xIndex at h
 split at h
 ·rename_i s c
  cases h
  refine at_extern (ss:=[.str s,.int .u8 c]) none_exps fun w F vals hsz hrep => ?_
  obtain⟨v,rfl,hv⟩:=rep_str2 hsz hrep
  rw[rep_int hv]
  refine⟨_,?_,.int _ _⟩
  rw[run_callFunc_extern hf hname hb hn he,Lib.run_indexByteString]
  rfl
 ·cases h
theorem cmp_at (hf : P.funcs[g]? = some fn) (hname : (fn.name == "runtime.NumGoroutine") = false) (hb : fn.body.isNone = true) (hn : Extern.findNext fn = none) (he : Extern.find fn = some Extern.BytealgCompare.compare)
  (h:xCmp args=some (r,exps)):CallAt P g args r exps:=by
 unfold xCmp at h
 split at h
 ·rename_i s c
  cases h
  refine at_extern (ss:=[.str s,.str c]) none_exps fun w F vals hsz hrep => ?_
  obtain⟨v,rfl,hv⟩:=rep_str2 hsz hrep
  rw[rep_str hv]
  refine⟨_,?_,.int _ _⟩
  rw[run_callFunc_extern hf hname hb hn he,Lib.run_compareString]
  rfl
 ·cases h
theorem count_at (hf : P.funcs[g]? = some fn) (hname : (fn.name == "runtime.NumGoroutine") = false) (hb : fn.body.isNone = true) (hn : Extern.findNext fn = none) (he : Extern.find fn = some Extern.BytealgCount.count)
  (h:xCount args=some (r,exps)):CallAt P g args r exps:=by
 unfold xCount at h
 split at h
 ·rename_i s c
  cases h
  refine at_extern (ss:=[.str s,.int .u8 c]) none_exps fun w F vals hsz hrep => ?_
  obtain⟨v,rfl,hv⟩:=rep_str2 hsz hrep
  rw[rep_int hv]
  refine⟨_,?_,.int _ _⟩
  rw[run_callFunc_extern hf hname hb hn he,Lib.run_countString]
  rfl
 ·cases h
theorem trim_at (hE:Enters P g) (hC : ∀ (s c:ByteArray) (w:World),s.size<=9223372036854775807->c.size<4294967281->(∀ (j:Nat) b,c.data.toList[j]?=some b->b.toNat<128) ->
   Calls P g #[.string s,.string c] w fun e w'=>e = .returned (.string ⟨(Lib.trimS s.data.toList c.data.toList).toArray⟩)/\Below w.heap.size w w')
  (h:xTrim args=some (r,exps)):CallAt P g args r exps:=by
 unfold xTrim at h
 split at h
 ·rename_i s c
  split at h
  ·rename_i hc
   cases h
   refine at_calls (ss:=[.str s,.str c]) hE none_exps fun w F vals hsz hrep => ?_
   obtain⟨v,rfl,hv⟩:=rep_str2 hsz hrep
   rw[rep_str hv]
   refine(hC s c w hc.1 hc.2.1 (fun j b hb=>of_decide_eq_true (List.all_eq_true.1 hc.2.2 b (List.mem_of_getElem? hb)))).mono ?_
   rintro e w' ⟨rfl,hb⟩
   exact⟨_,rfl,.str _,hb⟩
  ·cases h
 ·cases h
theorem trimLeft_at (hE:Enters P g) (hC : ∀ (s c:ByteArray) (w:World),c.size<4294967281->(∀ (j:Nat) b,c.data.toList[j]?=some b->b.toNat<128) ->
   Calls P g #[.string s,.string c] w fun e w'=>e = .returned (.string ⟨(Lib.trimLeftS s.data.toList c.data.toList).toArray⟩)/\Below w.heap.size w w')
  (h:xTrimLeft args=some (r,exps)):CallAt P g args r exps:=by
 unfold xTrimLeft at h
 split at h
 ·rename_i s c
  split at h
  ·rename_i hc
   cases h
   refine at_calls (ss:=[.str s,.str c]) hE none_exps fun w F vals hsz hrep => ?_
   obtain⟨v,rfl,hv⟩:=rep_str2 hsz hrep
   rw[rep_str hv]
   refine(hC s c w hc.1 (fun j b hb=>of_decide_eq_true (List.all_eq_true.1 hc.2 b (List.mem_of_getElem? hb)))).mono ?_
   rintro e w' ⟨rfl,hb⟩
   exact⟨_,rfl,.str _,hb⟩
  ·cases h
 ·cases h
theorem atoi_at (hE:Enters P g) (hC : ∀ (s:ByteArray) (v:Int) (w:World),s.size<=18->Lib.atoi s.data.toList=some v ->
   Calls P g #[.string s] w fun e w'=>e = .returned (.tuple #[.int .i64 v,.nilIface])/\Below w.heap.size w w')
  (h:xAtoi args=some (r,exps)):CallAt P g args r exps:=by
 unfold xAtoi at h
 split at h
 ·rename_i s
  split at h
  ·rename_i v hv
   split at h
   ·rename_i hc
    cases h
    refine at_calls (ss:=[.str s]) hE none_exps fun w F vals hsz hrep => ?_
    have h0:=hrep 0 _ rfl
    obtain⟨l⟩:=vals
    match l,hsz,h0 with
    | [a],_,h0=>
     have h0:Rep w F a (.str s):=h0
     rw[rep_str h0]
     refine(hC s v w hc hv).mono ?_
     rintro e w' ⟨rfl,hb⟩
     refine⟨_,rfl,.tup _ _ rfl (fun i x hx => ?_),hb⟩
     match i with
     |0=>cases hx;exact .int _ _
     |1=>cases hx;exact .con _ rfl
     |i+2=>simp at hx
   ·cases h
  ·cases h
 ·cases h
theorem strsOf_get : ∀ {cs:List SV} {xs:List (List UInt8)},strsOf cs=some xs->cs=xs.map (fun l => .str (bs l))
 | [],xs,h=>by cases h;rfl
 |c::r,xs,h=>by
  unfold strsOf at h
  split at h
  ·rename_i heq;cases heq
  ·rename_i s r' heq
   injection heq with e1 e2
   subst e1 e2
   split at h
   ·rename_i l hl
    cases h
    rw[List.map_cons,<- strsOf_get hl]
    rfl
   ·cases h
  ·cases h
theorem join_at (hE:Enters P g)
  (h0 : ∀ (a:Option Addr) (c:Nat) (sep:ByteArray) (w:World),Calls P g #[.slice a 0 c,.string sep] w fun e w'=>e = .returned (.string ⟨#[]⟩)/\w'=w)
  (hC : ∀ (bk o c:Nat) (xs:List ByteArray) (sep:ByteArray) (w:World),(∀ (j:Nat) x,xs[j]?=some x->w.cell? ⟨bk,o+j,none⟩=some (.string x))->bk<w.heap.size->xs.length<=140737488355328->xs.length<=c ->
   (Lib.join (xs.map (·.data.toList)) sep.data.toList).length<=140737488355328 ->
   Calls P g #[.slice (some ⟨bk,o,none⟩) xs.length c,.string sep] w fun e w'=>e = .returned (.string ⟨(Lib.join (xs.map (·.data.toList)) sep.data.toList).toArray⟩)/\Below w.heap.size w w')
  (h:xJoin args=some (r,exps)):CallAt P g args r exps:=by
 unfold xJoin at h
 split at h
 ·rename_i n cs sep
  split at h
  ·rename_i xs hxs
   split at h
   ·rename_i hc
    cases h
    obtain⟨hn,hm,hl⟩:=hc
    refine at_calls (ss:=[.sl n cs,.str sep]) hE none_exps fun w F vals hsz hrep => ?_
    have r0:=hrep 0 _ rfl
    have r1:=hrep 1 _ rfl
    obtain⟨l⟩:=vals
    match l,hsz,r0,r1 with
    | [a,b],_,r0,r1=>
     have r0:Rep w F a (.sl n cs):=r0
     have r1:Rep w F b (.str sep):=r1
     rw[rep_str r1]
     have hcs:=strsOf_get hxs
     have none_case : ∀ (A:Option Addr) (cap:Nat),xs=[]->Calls P g #[.slice A 0 cap,.string sep] w fun e w' => ∃v,e = .returned v/\Rep w' F v (.str (bs (Lib.join xs sep.data.toList)))/\Below w.heap.size w w':=by
      intro A cap hx
      subst hx
      refine(h0 A cap sep w).mono ?_
      rintro e w' ⟨rfl,rfl⟩
      exact⟨_,rfl,.str _,Below.refl _ _⟩
     cases r0 with
     |sl0 A _ cap _=>
      have hx:xs=[]:=by
       cases xs with
       |nil=>rfl
       |cons x xs=>simp at hcs
      subst hx
      cases hn
      exact none_case A cap rfl
     |sl p _ cap hle _ c hb hcell hr=>
      cases xs with
      |nil=>cases hn;exact none_case _ cap rfl
      |cons x xs=>
       have hcell' : ∀ (j:Nat) (y:ByteArray),((x::xs).map bs)[j]?=some y->w.cell? (p.add j)=some (.string y):=by
        intro j y hy
        have hj:cs[j]?=some (.str y):=by
         rw[hcs]
         rw[List.getElem?_map]at hy ⊢
         cases hz:(x::xs)[j]? with
         |none=>rw[hz]at hy;cases hy
         |some z=>rw[hz]at hy;cases hy;rfl
        rw[hcell j _ hj,rep_str (hr j _ hj)]
       have hp:p=⟨p.block,p.off,none⟩:=by
        have:=hcell' 0 _ rfl
        rw[show p.add 0=p from rfl]at this
        obtain⟨pb,po,ps⟩:=p
        cases ps with
        |none=>rfl
        |some _=>
         simp[World.cell?]at this
         split at this<;>simp at this
       have hlt:p.block<w.heap.size:=World.block_lt_of_cell? w p (hcell' 0 _ rfl)
       have key:=hC p.block p.off cap ((x::xs).map bs) sep w (fun j y hy=>by
        have:=hcell' j y hy
        rw[hp,add_mk]at this
        exact this) hlt (by rw[List.length_map];omega) (by rw[List.length_map];omega) (by
         rw[List.map_map]
         have:(x::xs).map ((fun y:ByteArray=>y.data.toList) ∘ bs)=x::xs:=by
          rw[show ((fun y:ByteArray=>y.data.toList) ∘ bs)=id from funext fun y=>bs_toList y]
          simp
         rw[this]
         exact hl)
       rw[List.length_map,hn,<- hp,List.map_map]at key
       have e1:(x::xs).map ((fun y:ByteArray=>y.data.toList) ∘ bs)=x::xs:=by
        rw[show ((fun y:ByteArray=>y.data.toList) ∘ bs)=id from funext fun y=>bs_toList y]
        simp
       rw[e1]at key
       refine key.mono ?_
       rintro e w' ⟨rfl,hb⟩
       exact⟨_,rfl,.str _,hb⟩
   ·cases h
  ·cases h
 ·cases h
end
end Go.Ev
namespace Go.Ev
open Go.RowKit
def xCut:List Arg->Option (Ret×List (Option (List SV)))
 | [.sv (.str s),.sv (.str c)]=>if 2<=c.size/\s.size<4294967281 then some (.sv (.tup [.str (bs (Lib.cut s.data.toList c.data.toList).1),.str (bs (Lib.cut s.data.toList c.data.toList).2.1),.bool (Lib.cut s.data.toList c.data.toList).2.2]),List.replicate 2 none) else none
 |_=>none
section
variable {P:Program} {g:FuncId} {args:List Arg} {r:Ret} {exps:List (Option (List SV))} {G:List (Nat×Value)}
theorem gl_cell {w:World} {F:Nat->Prop} {n:Nat} {v:Value} (h:GlOk G w F) (hm:(n,v)∈G):w.cell? ⟨n,0,none⟩=some v:=by
 obtain⟨a,ha,hc⟩:=mem_cells (h n v hm)
 cases ha
 obtain⟨u,hu,hr⟩:=hc 0 _ rfl
 rw[add_zero]at hu
 cases hr
 exact hu
def CallG (P:Program) (G:List (Nat×Value)) (g:FuncId) (args:List Arg) (r:Ret) (exps:List (Option (List SV))):Prop:=
 ∀ (w:World) (F:Nat->Prop) (B:Nat->Nat) (vals:Array Value),GlOk G w F->(∀b,F b->b<w.heap.size)->vals.size=args.length ->
  (∀ (i:Nat) (x:Arg),args[i]?=some x->ArgRep w F (vals.getD i undef) (B i) x) ->
  (∀ (i j:Nat) (x y:Arg),args[i]?=some x->args[j]?=some y->isImp x=true->isImp y=true->B i=B j->i=j) ->
  Invk P g vals w fun e w' => ∃v,e = .returned v/\RetRep w w' F v r/\Ext (impB args B) w w' /\ ∀ (i:Nat) (cs:List SV),exps[i]?=some (some cs)->Holds w' F (B i) cs
theorem cut_at {gv:Nat} {m:Int} (hE:Enters P g) (hm:(gv,Value.int .i64 m)∈G) (hC : ∀ (s c:ByteArray) (w:World),s.size<4294967281->w.cell? ⟨gv,0,none⟩=some (.int .i64 m) ->
   Calls P g #[.string s,.string c] w fun e w'=>e = .returned (.tuple #[.string ⟨(Lib.cut s.data.toList c.data.toList).1.toArray⟩,.string ⟨(Lib.cut s.data.toList c.data.toList).2.1.toArray⟩,.bool (Lib.cut s.data.toList c.data.toList).2.2]) /\ ∃n,w'=w.drewN n)
  (h:xCut args=some (r,exps)):CallG P G g args r exps:=by
 unfold xCut at h
 split at h
 ·rename_i s c
  split at h
  ·rename_i hc
   cases h
   intro w F B vals hgl hF hsz hrep hinj
   have hrep : ∀ (i:Nat) (x:SV),[SV.str s,SV.str c][i]?=some x->Rep w F (vals.getD i undef) x:=fun i x hx=>by
    have:=hrep i (.sv x) (by
     show ([SV.str s,SV.str c].map Arg.sv)[i]?=_
     rw[List.getElem?_map,hx];rfl)
    exact this
   obtain⟨v,rfl,hv⟩:=rep_str2 (by simpa using hsz) hrep
   rw[rep_str hv]
   refine .inl ⟨hE,(hC s c w hc.2 (gl_cell hgl hm)).mono ?_⟩
   rintro e w' ⟨rfl,n,rfl⟩
   refine⟨_,rfl,?_,ext_below (below_drewN (Below.refl _ _) n) (fun b=>sv_imp (ss:=[SV.str s,SV.str c])),fun i cs hi=>((none_exps (n:=2) i).2 cs hi).elim⟩
   refine .tup _ _ rfl fun i x hx => ?_
   match i,hx with
   |0,hx=>cases hx;exact .str _
   |1,hx=>cases hx;exact .str _
   |2,hx=>cases hx;exact .bool _
   |_+3,hx=>simp at hx
  ·cases h
 ·cases h
def xFields (gw:FuncId):List Arg->Option (Ret×List (Option (List SV)))
 | [.sv (.str s),.sv (.fn g [])]=>if Nat.beq g gw=true/\s.size<=4294967296 then some (.sv (.sl (Lib.goFieldsP (fun c=>c==32) s).length ((Lib.goFieldsP (fun c=>c==32) s).map SV.str)),List.replicate 2 none) else none
 |_=>none
theorem fields_at {gw:FuncId} {t:TypeId} (hE:Enters P g) (hC : ∀ (s:ByteArray) (w:World),s.size<=4294967296 ->
   Calls P g #[.string s,.func (.func gw) #[] #[]] w fun e w' => ∃A,e = .returned (.slice (some ⟨A,0,none⟩) (Lib.goFieldsP (fun c=>c==32) s).length (Lib.goFieldsP (fun c=>c==32) s).length)/\w.heap.size<=A /\
    w'.ownsRow w.heap.size t 1 (.slice (some ⟨A,0,none⟩) (Lib.goFieldsP (fun c=>c==32) s).length (Lib.goFieldsP (fun c=>c==32) s).length) (Lib.goFieldsP (fun c=>c==32) s).length ((Lib.goFieldsP (fun c=>c==32) s).map Value.string)/\Below w.heap.size w w')
  (h:xFields gw args=some (r,exps)):CallAt P g args r exps:=by
 unfold xFields at h
 split at h
 ·rename_i s f
  split at h
  ·rename_i hc
   cases h
   obtain⟨hf,hs⟩:=hc
   have hf:f=gw:=Nat.eq_of_beq_eq_true hf
   subst hf
   intro w F B vals hF hsz hrep hinj
   have hrep : ∀ (i:Nat) (x:SV),[SV.str s,SV.fn f []][i]?=some x->Rep w F (vals.getD i undef) x:=fun i x hx=>by
    have:=hrep i (.sv x) (by
     show ([SV.str s,SV.fn f []].map Arg.sv)[i]?=_
     rw[List.getElem?_map,hx];rfl)
    exact this
   obtain⟨v,rfl,hv⟩:=rep_str2 (by simpa using hsz) hrep
   have hv':v = .func (.func f) #[] #[]:=by
    cases hv with
    |fn _ vs _ hl _=>
     have:vs = #[]:=Array.eq_empty_of_size_eq_zero (by simpa using hl)
     rw[this]
   rw[hv']
   refine .inl ⟨hE,(hC s w hs).mono ?_⟩
   rintro e w' ⟨A,rfl,hA,hown,hb⟩
   refine⟨_,rfl,?_,ext_below hb (fun b=>sv_imp (ss:=[SV.str s,SV.fn f []])),fun i cs hi=>((none_exps (n:=2) i).2 cs hi).elim⟩
   refine .sl _ _ _ (Nat.le_refl _) _ (fun i => .string ((Lib.goFieldsP (fun c=>c==32) s).getD i default)) (fun hf=>absurd (hF _ hf) (by simpa using hA)) (fun i x hx => ?_) (fun i x hx => ?_)
   ·rw[List.getElem?_map]at hx
    obtain⟨y,hy,rfl⟩:=map_some hx
    have:=hown.cells (g:=A) rfl i (.string y) (by rw[List.getElem?_map,hy];rfl)
    rw[this,List.getD_eq_getElem?_getD,hy]
    rfl
   ·rw[List.getElem?_map]at hx
    obtain⟨y,hy,rfl⟩:=map_some hx
    rw[List.getD_eq_getElem?_getD,hy]
    exact .str _
  ·cases h
 ·cases h
end
theorem Fn.introAt {C:Cx} {f:FuncId} {fn:Func} {body:Code} {args:List SV} {r:SV} (hf:C.P.funcs[f]?=some fn) (hok:C.good f=true) (hb:fn.body=some body) (hX:C.X f (args.map Arg.sv)=none) (hl:args.length<=fn.ntmps)
  (h:WP C body (argSt (args.map Arg.sv)) (RQ C.P fn.results.toList r)):Fn C f args r:=by
 obtain⟨n,e,st,he,hq⟩:=h
 refine⟨n+1,expOf st (args.map Arg.sv),?_⟩
 have hm:exec C.P (callN C.P C.X C.mu C.good n) C.mu n body (argSt (args.map Arg.sv))=some (e,st):=he
 unfold callN
 rw[stq_sv,hX]
 simp only[hf,hok,hb,if_true]
 rw[if_pos (by simpa using hl),hm]
 cases e with
 |exit i=>exact hq.elim
 |goto i=>exact hq.elim
 |normal=>show Option.map _ (retOf C.P st fn.results.toList)=_;rw[show retOf C.P st fn.results.toList=some (.sv r) from hq];rfl
 |ret=>show Option.map _ (retOf C.P st fn.results.toList)=_;rw[show retOf C.P st fn.results.toList=some (.sv r) from hq];rfl
end Go.Ev
namespace Go.Ev
open Go.RowKit
def insSt (st:St) (d g:Nat) (cs:List SV):St:=
 {tmp:=fun t=>(st.tmp t).kill d g
  obj:=fun d' g'=>if d'=d/\g'=g then some cs else st.obj d' g'
  gen:=fun d'=>st.gen d'+1
  hob:=fun d' g'=>(st.hob d' g').map fun ts=>ts.map fun t=>t.kill d g
  up:=fun t=>(st.up t).kill d g }
def xIns:List Arg->Option (Ret×List (Option (List SV)))
 | [.st false st [.ref d g 2 0 n,.sv (.int .i64 i),.ref d2 g2 2 0 1]]=>match st.obj d g,st.obj d2 g2 with
  |some cs,some [.str b,.sl m l]=>if d<N0 /\ ¬(d2=d/\g2=g)/\cs.length=n*2/\oneAll cs=true/\0<=i/\i.toNat<=n/\n<=100000 then
    some (.st (insSt st d g (cs.take (i.toNat*2)++[.str b,.sl m l]++cs.drop (i.toNat*2))) (.ref d g 2 0 (n+1)),[]) else none
  |_,_=>none
 |_=>none
def xDel:List Arg->Option (Ret×List (Option (List SV)))
 | [.st false st [.ref d g 2 0 n,.sv (.int .i64 i),.sv (.int .i64 j)]]=>match st.obj d g with
  |some cs=>if d<N0/\cs.length=n*2/\oneAll cs=true/\0<=i/\j=i+1/\i.toNat<n/\n<=100000 then
    some (.st (insSt st d g (cs.take (i.toNat*2)++cs.drop (i.toNat*2+2))) (.ref d g 2 0 (n-1)),[]) else none
  |none=>none
 |_=>none
def xOver:List Arg->Option (Ret×List (Option (List SV)))
 | [.st false st [.ref d g 2 0 1,.rfc d' g' 2 off n c]]=>if (st.obj d g).isSome=true/\(st.obj d' g').isSome=true /\ ¬(d=d'/\g=g')/\0<c then some (.st st (.sv (.bool false)),[]) else none
 |_=>none
theorem insSt_upd {s:St} {l:Loc} {d g:Nat} {cs:List SV} {v:TV}:insSt (s.upd l v) d g cs=(insSt s d g cs).upd l (v.kill d g):=by
 cases l with
 |tmp t=>
  refine St.ext' (fun x => ?_) (fun _ _=>rfl) (fun _=>rfl) rfl rfl
  show TV.kill d g (if x=t then v else s.tmp x)=if x=t then v.kill d g else (s.tmp x).kill d g
  split<;>rfl
 |up t=>
  refine St.ext' (fun _=>rfl) (fun _ _=>rfl) (fun _=>rfl) rfl (funext fun x => ?_)
  show TV.kill d g (if x=t then v else s.up x)=if x=t then v.kill d g else (s.up x).kill d g
  split<;>rfl
theorem ins_eqv {b:Bool} {s:St} {vs:List TV} {r:Ret} {e:List (Option (List SV))} (h:xIns [.st b s vs]=some (r,e)) (l:Loc) : ∃m:TV->TV,∀v,xIns [.st b (s.upd l v) vs]=some (r.upd l (m v),e):=by
 unfold xIns at h
 split at h
 ·rename_i st d g n i d2 g2 hargs
  cases hargs
  split at h
  ·rename_i cs bb m l0 h1 h2
   split at h
   ·rename_i hc
    cases h
    refine⟨fun v=>v.kill d g,fun v => ?_⟩
    unfold xIns
    simp only[upd_obj,h1,h2]
    rw[if_pos hc,insSt_upd]
    rfl
   ·cases h
  ·cases h
 ·cases h
theorem del_eqv {b:Bool} {s:St} {vs:List TV} {r:Ret} {e:List (Option (List SV))} (h:xDel [.st b s vs]=some (r,e)) (l:Loc) : ∃m:TV->TV,∀v,xDel [.st b (s.upd l v) vs]=some (r.upd l (m v),e):=by
 unfold xDel at h
 split at h
 ·rename_i st d g n i j hargs
  cases hargs
  split at h
  ·rename_i cs h1
   split at h
   ·rename_i hc
    cases h
    refine⟨fun v=>v.kill d g,fun v => ?_⟩
    unfold xDel
    simp only[upd_obj,h1]
    rw[if_pos hc,insSt_upd]
    rfl
   ·cases h
  ·cases h
 ·cases h
theorem over_eqv {b:Bool} {s:St} {vs:List TV} {r:Ret} {e:List (Option (List SV))} (h:xOver [.st b s vs]=some (r,e)) (l:Loc) : ∃m:TV->TV,∀v,xOver [.st b (s.upd l v) vs]=some (r.upd l (m v),e):=by
 unfold xOver at h
 split at h
 ·rename_i st d g d' g' off n c hargs
  cases hargs
  split at h
  ·rename_i hc
   cases h
   refine⟨id,fun v => ?_⟩
   unfold xOver
   simp only[upd_obj]
   rw[if_pos hc]
   rfl
  ·cases h
 ·cases h
section
variable {P:Program} {w0 w:World} {F I:Nat->Prop} {Z:Zy} {N:Nat} {β:Nat->Nat->Nat} {st:St} {a:Act}
theorem over_in {P : Program} {g : FuncId} {fn : Func} {tS tR e : TypeId} {size : Nat} (hf : P.funcs[g]? = some fn) (hname : (fn.name == "runtime.NumGoroutine") = false) (hb : fn.body.isNone = true) (hn : Extern.findNext fn = none) (he : Extern.find fn = some (Extern.SlicesOverlaps.overlaps #[tS, tS] #[tR]))
  (hel:elm P tS=some (e,2,size)) {k:Bool} {st:St} {vs:List TV} {r:Ret} {exps:List (Option (List SV))} (h:xOver [.st k st vs]=some (r,exps))
  (w0:World) (F I:Nat->Prop) (Z:Zy) (N:Nat) (β:Nat->Nat->Nat) (a:Act) (w:World) (vals:Array Value) (hrel:Rel w0 F I Z N β st a w) (hsz:vals.size=vs.length)
  (hv : ∀ (i:Nat) (v:TV),vs[i]?=some v->RepT β w (Mut F β st) (vals.getD i undef) v /\ ∀d g,v.id=some (d,g)->g<st.gen d) :
  Invk P g vals w fun e w' => ∃v,e = .returned v/\InRet w0 F I Z N st a w' k v r:=by
 unfold xOver at h
 split at h
 ·rename_i st1 d g1 d' g' off n c hargs
  cases hargs
  split at h
  ·rename_i hc
   cases h
   obtain⟨ho,ho',hne,hn0⟩:=hc
   obtain⟨cap,cs,ty,h1,h2,h3,h4⟩:=(hv 0 _ rfl).1
   obtain⟨cs',ty',h1',h2',h3',h4'⟩:=(hv 1 _ rfl).1
   have hvals:vals = #[vals.getD 0 undef,vals.getD 1 undef]:=by
    have:vals.size=2:=hsz
    apply Array.ext
    ·simpa using this
    ·intro i hi1 hi2
     have hi:i<2:=by simpa using hi2
     match i,hi with
     |0,_=>simp[Array.getD_eq_getD_getElem?,hi1]
     |1,_=>simp[Array.getD_eq_getD_getElem?,hi1]
   have hbne:β d g1≠β d' g':=fun e=>hne (hrel.inj _ _ _ _ ho ho' e)
   obtain⟨hu,i,hi,his,hib⟩:=elm_parts hel
   have hk:cs'.size≠0:=by omega
   refine .inr ⟨.bool false,?_,.bool false,rfl,rfl,β,hrel,.bool _,fun d g e=>by simp[TV.id]at e⟩
   rw[run_callFunc_extern hf hname hb hn he,hvals,h1,h1']
   rw[Lib.run_overlaps_apart w tS tR e hu 2 (fun w=>by rw[<- his];exact run_size hi w) ⟨β d g1,0,none⟩ ⟨β d' g',off,none⟩ 1 cap n c hbne ty ty' cs.size cs'.size (by simp only[World.shape?,h3]) (by simp only[World.shape?,h3']) hk
    (by simp only[World.frozen?,h3];simp) (by simp only[World.frozen?,h3];simp)]
   rfl
  ·cases h
 ·cases h
theorem Rel.genUp (h:Rel w0 F I Z N β st a w) {gen':Nat->Nat} (hg : ∀d,st.gen d<=gen' d):Rel w0 F I Z N β { st with gen:=gen' } a w where
 defers:=h.defers
 size:=h.size
 tmps:=h.tmps
 ids:=fun t d g hx=>Nat.lt_of_lt_of_le (h.ids t d g hx) (hg d)
 objs:=h.objs
 own:=h.own
 room:=h.room
 inj:=h.inj
 gens:=fun d g ho=>Nat.lt_of_lt_of_le (h.gens d g ho) (hg d)
 ext:=h.ext
 old:=h.old
 imps:=h.imps
 pin:=h.pin
 ups:=h.ups
 uids:=fun t d g hx=>Nat.lt_of_lt_of_le (h.uids t d g hx) (hg d)
 glob:=h.glob
 hobs:=fun d' g' ts hts=>by
  obtain⟨h1,h2,cs1,ty1,hb1,hall⟩:=h.hobs d' g' ts hts
  refine⟨h1,h2,cs1,ty1,hb1,fun i x hx => ?_⟩
  obtain⟨v,hv,ho,hr,hid⟩:=hall i x hx
  exact⟨v,hv,ho,hr,fun d1 g1 e=>Nat.lt_of_lt_of_le (hid d1 g1 e) (hg d1)⟩
theorem Rel.lessObj (h:Rel w0 F I Z N β st a w) {d g:Nat} {cs cs':List SV} (hdN:d<N0) (ho:st.obj d g=some cs) (hp : ∀ (i:Nat) (s:SV),cs'[i]?=some s->cs[i]?=some s):Rel w0 F I Z N β (st.set d g cs') a w:=by
 obtain⟨us,ty,hb,hall⟩:=h.objs d g cs ho
 exact h.set ho hb hb rfl (fun b _=>rfl) rfl rfl rfl rfl (fun i s hs=>hall i s (hp i s hs)) (.inl (h.no_hob (Nat.lt_trans hdN (by decide))))
theorem Rel.rename (h:Rel w0 F I Z N β st a w) {d g D G:Nat} {cs cs':List SV} (hd:d<N0) (hD:D<N0) (hne : ¬(d=D/\g=G)) (ho:st.obj d g=some cs) (hO:st.obj D G=some cs')
  (hno : ∀t d' g',(st.tmp t).id=some (d',g') -> ¬(d'=d/\g'=g) /\ ¬(d'=D/\g'=G)) (hnu : ∀t d' g',(st.up t).id=some (d',g') -> ¬(d'=d/\g'=g) /\ ¬(d'=D/\g'=G))
  (hnh : ∀ (d1 g1:Nat) (ts:List TV) (i:Nat) (x:TV) (d' g':Nat),st.hob d1 g1=some ts->ts[i]?=some x->x.id=some (d',g') -> ¬(d'=d/\g'=g) /\ ¬(d'=D/\g'=G)) :
  Rel w0 F I Z N (upd β d g (β D G)) { st with obj:=fun d' g'=>if d'=d/\g'=g then some cs' else if d'=D/\g'=G then none else st.obj d' g' } a w:=by
 generalize hs:({ st with obj:=fun d' g'=>if d'=d/\g'=g then some cs' else if d'=D/\g'=G then none else st.obj d' g' }:St)=s
 have etmp:s.tmp=st.tmp:=by rw[<- hs]
 have eup:s.up=st.up:=by rw[<- hs]
 have egen:s.gen=st.gen:=by rw[<- hs]
 have ehob:s.hob=st.hob:=by rw[<- hs]
 have eobj : ∀d' g',s.obj d' g'=if d'=d/\g'=g then some cs' else if d'=D/\g'=G then none else st.obj d' g':=fun d' g'=>by rw[<- hs]
 have hupd : ∀d' g',¬(d'=d/\g'=g)->upd β d g (β D G) d' g'=β d' g':=fun d' g' he=>if_neg he
 have hobj : ∀d' g',(s.obj d' g').isSome=true->(d'=d/\g'=g)\/((st.obj d' g').isSome=true /\ ¬(d'=d/\g'=g) /\ ¬(d'=D/\g'=G)):=by
  intro d' g' h1
  rw[eobj]at h1
  by_cases he:d'=d/\g'=g
  ·exact .inl he
  ·rw[if_neg he]at h1
   by_cases he2:d'=D/\g'=G
   ·rw[if_pos he2]at h1;cases h1
   ·rw[if_neg he2]at h1;exact .inr ⟨h1,he,he2⟩
 have hOs:(st.obj D G).isSome=true:=by rw[hO];rfl
 have hM : ∀b,Mut F (upd β d g (β D G)) s b->Mut F β st b:=by
  rintro b (hf|⟨d',g',h1,e⟩)
  ·exact .inl hf
  ·rcases hobj d' g' h1 with⟨rfl,rfl⟩|⟨h1',he,_⟩
   ·rw[upd_self]at e;exact .inr ⟨D,G,hOs,e⟩
   ·rw[hupd _ _ he]at e;exact .inr ⟨d',g',h1',e⟩
 have hrep : ∀ {v:Value} {x:SV},Rep w (Mut F β st) v x->Rep w (Mut F (upd β d g (β D G)) s) v x:=fun hr=>Rep.mono (w:=w) (fun _ _ _=>rfl) (fun b _ hm=>hM b hm) hr
 have hT : ∀ {v:Value} {x:TV},RepT β w (Mut F β st) v x->(∀d' g',x.id=some (d',g') -> ¬(d'=d/\g'=g) /\ ¬(d'=D/\g'=G))->RepT (upd β d g (β D G)) w (Mut F (upd β d g (β D G)) s) v x:=by
  intro v x hold hids
  cases x with
  |sv s=>exact hrep hold
  |nil=>exact hold
  |undef=>trivial
  |skip=>exact hold
  |ptr d' g' off=>show _=_;rw[hupd d' g' (hids d' g' rfl).1];exact hold
  |pst d' g'=>show _=_;rw[hupd d' g' (hids d' g' rfl).1];exact hold
  |ref d' g' size off n=>
   obtain⟨cap,cs',ty',h1,h2,h3,h4⟩:=hold
   rw[<- hupd d' g' (hids d' g' rfl).1]at h1 h3
   exact⟨cap,cs',ty',h1,h2,h3,h4⟩
  |rfc d' g' size off n c=>
   obtain⟨cs',ty',h1,h2,h3,h4⟩:=hold
   rw[<- hupd d' g' (hids d' g' rfl).1]at h1 h3
   exact⟨cs',ty',h1,h2,h3,h4⟩
 exact {
  defers:=h.defers
  size:=h.size
  tmps:=fun u=>by rw[etmp];exact hT (h.tmps u) (hno u)
  ids:=fun u d' g' hx=>by rw[egen];rw[etmp]at hx;exact h.ids u d' g' hx
  objs:=fun d' g' cells hc=>by
   rw[eobj]at hc
   by_cases he:d'=d/\g'=g
   ·rw[if_pos he]at hc
    obtain⟨rfl,rfl⟩:=he
    cases hc
    obtain⟨us,ty,hb,hall⟩:=h.objs D G cs' hO
    refine⟨us,ty,by rw[upd_self];exact hb,fun i s hs => ?_⟩
    obtain⟨h1,u,hu,hr⟩:=hall i s hs
    exact⟨h1,u,hu,hrep hr⟩
   ·rw[if_neg he]at hc
    by_cases he2:d'=D/\g'=G
    ·rw[if_pos he2]at hc;cases hc
    ·rw[if_neg he2]at hc
     obtain⟨us,ty,hb,hall⟩:=h.objs d' g' cells hc
     refine⟨us,ty,by rw[hupd _ _ he];exact hb,fun i s hs => ?_⟩
     obtain⟨h1,u,hu,hr⟩:=hall i s hs
     exact⟨h1,u,hu,hrep hr⟩
  own:=fun d' g' h1=>by
   rcases hobj d' g' h1 with⟨rfl,rfl⟩|⟨h1',he,_⟩
   ·rw[upd_self]
    exact⟨fun _=>(h.own D G hOs).1 (.inl hD),fun hn _=>absurd hd (by omega)⟩
   ·rw[hupd _ _ he];exact h.own d' g' h1'
  room:=h.room
  inj:=fun d1 g1 d2 g2 h1 h2 e=>by
   rcases hobj d1 g1 h1 with⟨rfl,rfl⟩|⟨h1',he1,hq1⟩<;>rcases hobj d2 g2 h2 with⟨rfl,rfl⟩|⟨h2',he2,hq2⟩
   ·exact⟨rfl,rfl⟩
   ·rw[upd_self,hupd _ _ he2]at e
    have:=h.inj D G d2 g2 hOs h2' e
    exact(hq2 ⟨this.1.symm,this.2.symm⟩).elim
   ·rw[upd_self,hupd _ _ he1]at e
    exact(hq1 (h.inj d1 g1 D G h1' hOs e)).elim
   ·rw[hupd _ _ he1,hupd _ _ he2]at e
    exact h.inj d1 g1 d2 g2 h1' h2' e
  gens:=fun d' g' h1=>by
   rw[egen]
   rcases hobj d' g' h1 with⟨rfl,rfl⟩|⟨h1',_⟩
   ·exact h.gens d' g' (by rw[ho];rfl)
   ·exact h.gens d' g' h1'
  ext:=h.ext
  old:=h.old
  imps:=h.imps
  pin:=fun d' g' hd' hd''=>(hupd d' g' (fun e=>by omega)).trans (h.pin d' g' hd' hd'')
  ups:=fun u=>by rw[eup];exact hT (h.ups u) (hnu u)
  uids:=fun u d' g' hx=>by rw[egen];rw[eup]at hx;exact h.uids u d' g' hx
  glob:=fun g v hg=>hrep (h.glob g v hg)
  hobs:=fun d' g' ts hts=>by
   rw[ehob]at hts
   obtain⟨h1,h2,cs1,ty1,hb1,hall⟩:=h.hobs d' g' ts hts
   have hH:N0<H0:=by decide
   have hne1 : ¬(d'=d/\g'=g):=fun e=>by omega
   have hne2 : ¬(d'=D/\g'=G):=fun e=>by omega
   refine⟨h1,by rw[eobj,if_neg hne1,if_neg hne2];exact h2,cs1,ty1,by rw[hupd _ _ hne1];exact hb1,fun i x hx => ?_⟩
   obtain⟨v,hv,ho,hr,hid⟩:=hall i x hx
   exact⟨v,hv,ho,hT hr (fun a1 a2 e=>hnh d' g' ts i x a1 a2 hts hx e),fun a1 a2 e=>by rw[egen];exact hid a1 a2 e⟩ }
structure InsLeaves (st:St) (d g n:Nat) (cs:List SV) (s:St) (t:TV):Prop where
 tmp : ∀u,s.tmp u=st.tmp u
 up : ∀u,s.up u=st.up u
 hob : ∀d' g',s.hob d' g'=st.hob d' g'
 here:(∃cs1,(∀d' g',s.obj d' g'=if d'=d/\g'=g then some cs1 else st.obj d' g')/\(∀ (i:Nat) (x:SV),cs[i]?=some x->cs1[i]?=some x)/\(∀d',s.gen d'=st.gen d')/\t = .ref d g 2 0 n) \/
  ∃D,D<N0/\(∀d' g',s.obj d' g'=if d'=D/\g'=st.gen D then some cs else st.obj d' g')/\(∀d',s.gen d'=if d'=D then st.gen D+1 else st.gen d')/\t = .ref D (st.gen D) 2 0 n
theorem st_eq {s s':St} (h1 : ∀u,s.tmp u=s'.tmp u) (h2 : ∀d g,s.obj d g=s'.obj d g) (h3 : ∀d,s.gen d=s'.gen d) (h4 : ∀d g,s.hob d g=s'.hob d g) (h5 : ∀u,s.up u=s'.up u):s=s':=by
 obtain⟨a1,a2,a3,a4,a5⟩:=s
 obtain⟨b1,b2,b3,b4,b5⟩:=s'
 have e1:a1=b1:=funext h1
 have e2:a2=b2:=funext fun d=>funext fun g=>h2 d g
 have e3:a3=b3:=funext h3
 have e4:a4=b4:=funext fun d=>funext fun g=>h4 d g
 have e5:a5=b5:=funext h5
 subst e1 e2 e3 e4 e5
 rfl
theorem InsLeaves.ups {s:St} {vs:List TV} (h : ∀u,s.up u=(st.enter vs).up u):(∀u,s.leave.tmp u=st.tmp u) /\ ∀u,s.leave.up u=st.up u:=by
 constructor
 ·intro u
  show s.up (2*u)=_
  rw[h]
  show (if 2*u%2=0 then st.tmp (2*u/2) else st.up (2*u/2))=_
  rw[if_pos (by omega),show 2*u/2=u by omega]
 ·intro u
  show s.up (2*u+1)=_
  rw[h]
  show (if (2*u+1)%2=0 then st.tmp ((2*u+1)/2) else st.up ((2*u+1)/2))=_
  rw[if_neg (by omega),show (2*u+1)/2=u by omega]
theorem leaves_here {s:St} {vs:List TV} {d g n:Nat} {cs:List SV} (cs1:List SV) {rs:List ResultVar} (hr:retI P s rs=some (.ref d g 2 0 n)) (h1 : ∀u,s.up u=(st.enter vs).up u) (h2 : ∀d' g',s.hob d' g'=st.hob d' g')
  (h3 : ∀d' g',s.obj d' g'=if d'=d/\g'=g then some cs1 else st.obj d' g') (h4 : ∀d',s.gen d'=st.gen d') (hp : ∀ (i:Nat) (x:SV),cs[i]?=some x->cs1[i]?=some x):RZ P rs (InsLeaves st d g n cs) .ret s:=
 rz_ret hr ⟨(InsLeaves.ups h1).1,(InsLeaves.ups h1).2,h2,.inl ⟨cs1,h3,hp,h4,rfl⟩⟩ (frzR_ref hr)
theorem leaves_new {s:St} {vs:List TV} {d g n:Nat} {cs:List SV} (D:Nat) {rs:List ResultVar} (hr:retI P s rs=some (.ref D (st.gen D) 2 0 n)) (hD:D<N0) (h1 : ∀u,s.up u=(st.enter vs).up u) (h2 : ∀d' g',s.hob d' g'=st.hob d' g')
  (h3 : ∀d' g',s.obj d' g'=if d'=D/\g'=st.gen D then some cs else st.obj d' g') (h4 : ∀d',s.gen d'=if d'=D then st.gen D+1 else st.gen d'):RZ P rs (InsLeaves st d g n cs) .ret s:=
 rz_ret hr ⟨(InsLeaves.ups h1).1,(InsLeaves.ups h1).2,h2,.inr ⟨D,hD,h3,h4,rfl⟩⟩ (frzR_ref hr)
theorem InsLeaves.to {s:St} {t:TV} {d g n:Nat} {cs cs0:List SV} (h:InsLeaves st d g n cs s t) {w1:World} {β1:Nat->Nat->Nat} {v:Value} (h0:Rel w0 F I Z N β st a w) (hd:d<N0) (ho:st.obj d g=some cs0)
  (hr:Rel w0 F I Z N β1 s a w1) (ht:RepT β1 w1 (Mut F β1 s) v t) : ∃β',Rel w0 F I Z N β' (insSt st d g cs) a w1/\RepT β' w1 (Mut F β' (insSt st d g cs)) v (.ref d g 2 0 n) /\ ∀d' g',(TV.ref d g 2 0 n).id=some (d',g')->g'<(insSt st d g cs).gen d':=by
 have hgen : ∀d' g',(TV.ref d g 2 0 n).id=some (d',g')->g'<(insSt st d g cs).gen d':=by
  intro d' g' e
  simp only[TV.id,Option.some.injEq,Prod.mk.injEq]at e
  obtain⟨rfl,rfl⟩:=e
  exact Nat.lt_succ_of_lt (h0.gens _ _ (by rw[ho];rfl))
 obtain⟨etmp,eup,ehob,here⟩:=h
 rcases here with⟨cs1,eobj,hpre,egen,rfl⟩|⟨D,hD,eobj,egen,rfl⟩
 ·have h1:=((hr.kill d g).lessObj (cs:=cs1) (cs':=cs) hd (by show s.obj d g=_;rw[eobj,if_pos ⟨rfl,rfl⟩]) hpre).genUp (gen':=fun d'=>st.gen d'+1) (fun d'=>by show s.gen d'<=_;rw[egen];exact Nat.le_succ _)
  have e:({ (s.kill d g).set d g cs with gen:=fun d'=>st.gen d'+1 }:St)=insSt st d g cs:=by
   refine st_eq (fun u => ?_) (fun d' g' => ?_) (fun d'=>rfl) (fun d' g' => ?_) (fun u => ?_)
   ·show (s.tmp u).kill d g=(st.tmp u).kill d g
    rw[etmp]
   ·show (if d'=d/\g'=g then some cs else s.obj d' g')=(if d'=d/\g'=g then some cs else st.obj d' g')
    by_cases he:d'=d/\g'=g
    ·rw[if_pos he,if_pos he]
    ·rw[if_neg he,if_neg he,eobj,if_neg he]
   ·show (s.hob d' g').map _=(st.hob d' g').map _
    rw[ehob]
   ·show (s.up u).kill d g=(st.up u).kill d g
    rw[eup]
  rw[e]at h1
  exact⟨β1,h1,ht,hgen⟩
 ·have hos:(st.obj d g).isSome=true:=by rw[ho];rfl
  have hne : ¬(d=D/\g=st.gen D):=fun e=>by
   have:=h0.gens d g hos
   obtain⟨rfl,e2⟩:=e
   omega
  have hko:(s.kill d g).obj d g=some cs0:=by
   show s.obj d g=_
   rw[eobj,if_neg hne];exact ho
  have hkO:(s.kill d g).obj D (st.gen D)=some cs:=by
   show s.obj D (st.gen D)=_
   rw[eobj,if_pos ⟨rfl,rfl⟩]
  have hid : ∀ {x:TV} {d' g':Nat},(∀d' g',x.id=some (d',g')->g'<st.gen d')->(x.kill d g).id=some (d',g') -> ¬(d'=d/\g'=g) /\ ¬(d'=D/\g'=st.gen D):=by
   intro x d' g' hx hk
   obtain⟨h1,h2⟩:=kill_id hk
   refine⟨h2,fun e => ?_⟩
   have:=hx d' g' h1
   obtain⟨rfl,rfl⟩:=e
   exact absurd this (Nat.lt_irrefl _)
  have h1:=((hr.kill d g).rename hd hD hne hko hkO (fun t d' g' e=>hid (fun d1 g1 e1=>h0.ids t d1 g1 e1) (by rw[<- etmp];exact e)) (fun t d' g' e=>hid (fun d1 g1 e1=>h0.uids t d1 g1 e1) (by rw[<- eup];exact e))
   (fun d1 g1 ts i x d' g' e1 e2 e3=>by
    have e1:(s.hob d1 g1).map (fun ts=>ts.map fun t=>t.kill d g)=some ts:=e1
    rw[ehob]at e1
    obtain⟨ts0,hts0,rfl⟩:=map_some e1
    rw[List.getElem?_map]at e2
    obtain⟨x0,hx0,rfl⟩:=map_some e2
    obtain⟨_,_,cs9,ty9,_,hall⟩:=h0.hobs d1 g1 ts0 hts0
    obtain⟨_,_,_,_,hidx⟩:=hall i x0 hx0
    exact hid hidx e3)).genUp (gen':=fun d'=>st.gen d'+1) (fun d'=>by
     show s.gen d'<=_
     rw[egen]
     split
     ·rename_i e;rw[e];exact Nat.le_refl _
     ·exact Nat.le_succ _)
  have hnone:st.obj D (st.gen D)=none:=by
   cases e:st.obj D (st.gen D) with
   |none=>rfl
   |some x=>exact absurd (h0.gens D (st.gen D) (by rw[e];rfl)) (Nat.lt_irrefl _)
  have e:({ (s.kill d g) with obj:=fun d' g'=>if d'=d/\g'=g then some cs else if d'=D/\g'=st.gen D then none else (s.kill d g).obj d' g',gen:=fun d'=>st.gen d'+1 }:St)=insSt st d g cs:=by
   refine st_eq (fun u => ?_) (fun d' g' => ?_) (fun d'=>rfl) (fun d' g' => ?_) (fun u => ?_)
   ·show (s.tmp u).kill d g=(st.tmp u).kill d g
    rw[etmp]
   ·show (if d'=d/\g'=g then some cs else if d'=D/\g'=st.gen D then none else s.obj d' g')=(if d'=d/\g'=g then some cs else st.obj d' g')
    by_cases he:d'=d/\g'=g
    ·rw[if_pos he,if_pos he]
    ·rw[if_neg he,if_neg he]
     by_cases he2:d'=D/\g'=st.gen D
     ·rw[if_pos he2];obtain⟨rfl,rfl⟩:=he2;exact hnone.symm
     ·rw[if_neg he2,eobj,if_neg he2]
   ·show (s.hob d' g').map _=(st.hob d' g').map _
    rw[ehob]
   ·show (s.up u).kill d g=(st.up u).kill d g
    rw[eup]
  rw[e]at h1
  refine⟨_,h1,?_,hgen⟩
  obtain⟨cap,cs',ty',a1,a2,a3,a4⟩:=ht
  exact⟨cap,cs',ty',by rw[upd_self];exact a1,a2,by rw[upd_self];exact a3,a4⟩
theorem leaves_in {C:Cx} {G:List (Nat×Value)} (hZ:Z.gl=G) (hC:TabOk C.P G C.X) (hgood:Good C.P C.good) {f:FuncId} {d g n m:Nat} {vs:List TV} {cs cs0:List SV}
  (hd:d<N0) (ho:st.obj d g=some cs0)
  (hw : ∀c,n<=c -> ∃k s t,callN C.P C.X C.mu C.good k f [.st false st (.rfc d g 2 0 n c::vs)]=some (.st s t,[])/\InsLeaves st d g m cs s t)
  {vals:Array Value} (hrel:Rel w0 F I Z N β st a w) (hsz:vals.size=vs.length+1)
  (hv : ∀ (i:Nat) (v:TV),(TV.ref d g 2 0 n::vs)[i]?=some v->RepT β w (Mut F β st) (vals.getD i undef) v /\ ∀d g,v.id=some (d,g)->g<st.gen d) :
  Invk C.P f vals w fun e w' => ∃v,e = .returned v/\InRet w0 F I Z N st a w' false v (.st (insSt st d g cs) (.ref d g 2 0 m)):=by
 obtain⟨⟨cap,us,ty,h1,h2,h3,h4⟩,hid⟩:=hv 0 _ rfl
 obtain⟨k,s,t,hc,hl⟩:=hw cap h2
 refine((callN_all hC hgood C.mu k).2.1 f false st _ _ _ hc w0 F I Z N β a w vals hZ hrel (by simpa using hsz) (fun i v hi => ?_)).mono ?_
 ·cases i with
  |zero=>
   simp only[List.getElem?_cons_zero,Option.some.injEq]at hi
   subst hi
   exact⟨⟨us,ty,h1,h2,h3,h4⟩,fun d' g' e=>hid d' g' e⟩
  |succ i=>exact hv (i+1) v hi
 ·rintro e w' ⟨v,rfl,_,β1,hr,ht,_⟩
  obtain⟨β',a1,a2,a3⟩:=hl.to hrel hd ho hr ht
  exact⟨v,rfl,rfl,β',a1,a2,a3⟩
end
end Go.Ev
namespace Go.Proofs.YtheclpmgipiejaaGreatDoor
open Go.Ev
noncomputable abbrev muF0 (f:Nat):Bool:=Nat.beq f 269
noncomputable abbrev muF1 (f:Nat):Bool:=Bool.rec (muF0 f) true (Nat.beq f 238)
noncomputable abbrev muF2 (f:Nat):Bool:=Bool.rec (muF1 f) true (Nat.beq f 219)
noncomputable abbrev muF3 (f:Nat):Bool:=Bool.rec (muF2 f) true (Nat.beq f 281)
noncomputable abbrev muF4 (f:Nat):Bool:=Bool.rec (muF3 f) true (Nat.beq f 280)
noncomputable abbrev muF5 (f:Nat):Bool:=Bool.rec (muF4 f) true (Nat.beq f 220)
noncomputable abbrev muF6 (f:Nat):Bool:=Bool.rec (muF5 f) true (Nat.beq f 239)
noncomputable abbrev muF7 (f:Nat):Bool:=Bool.rec (Bool.rec (muF6 f) true (Nat.beq f (1000000+145))) true (Nat.beq f 145)
noncomputable abbrev muF8 (f:Nat):Bool:=Bool.rec (Bool.rec (muF7 f) true (Nat.beq f (1000000+170))) true (Nat.beq f 170)
noncomputable abbrev muF9 (f:Nat):Bool:=Bool.rec (Bool.rec (muF8 f) true (Nat.beq f (1000000+66))) true (Nat.beq f 66)
noncomputable abbrev muF10 (f:Nat):Bool:=Bool.rec (Bool.rec (muF9 f) true (Nat.beq f (1000000+101))) true (Nat.beq f 101)
noncomputable abbrev muF11 (f:Nat):Bool:=Bool.rec (Bool.rec (muF10 f) true (Nat.beq f (1000000+120))) true (Nat.beq f 120)
noncomputable abbrev muF12 (f:Nat):Bool:=Bool.rec (Bool.rec (muF11 f) true (Nat.beq f (1000000+103))) true (Nat.beq f 103)
noncomputable abbrev muF13 (f:Nat):Bool:=Bool.rec (Bool.rec (muF12 f) true (Nat.beq f (1000000+106))) true (Nat.beq f 106)
noncomputable abbrev muF14 (f:Nat):Bool:=Bool.rec (Bool.rec (muF13 f) true (Nat.beq f (1000000+171))) true (Nat.beq f 171)
noncomputable abbrev muF15 (f:Nat):Bool:=Bool.rec (Bool.rec (muF14 f) true (Nat.beq f (1000000+205))) true (Nat.beq f 205)
noncomputable abbrev muF16 (f:Nat):Bool:=Bool.rec (Bool.rec (muF15 f) true (Nat.beq f (1000000+172))) true (Nat.beq f 172)
noncomputable abbrev muF17 (f:Nat):Bool:=muF16 f
noncomputable abbrev muF18 (f:Nat):Bool:=muF17 f
noncomputable abbrev muF19 (f:Nat):Bool:=muF18 f
noncomputable abbrev muF20 (f:Nat):Bool:=muF19 f
noncomputable abbrev muF21 (f:Nat):Bool:=muF20 f
noncomputable abbrev muF22 (f:Nat):Bool:=muF21 f
noncomputable abbrev muF23 (f:Nat):Bool:=muF22 f
noncomputable abbrev muF24 (f:Nat):Bool:=muF23 f
noncomputable abbrev muF25 (f:Nat):Bool:=Bool.rec (Bool.rec (muF24 f) true (Nat.beq f (1000000+277))) true (Nat.beq f 277)
noncomputable abbrev muF26 (f:Nat):Bool:=Bool.rec (Bool.rec (muF25 f) true (Nat.beq f (1000000+33))) true (Nat.beq f 33)
noncomputable abbrev muF27 (f:Nat):Bool:=Bool.rec (Bool.rec (muF26 f) true (Nat.beq f (1000000+64))) true (Nat.beq f 64)
noncomputable abbrev muF28 (f:Nat):Bool:=Bool.rec (Bool.rec (muF27 f) true (Nat.beq f (1000000+73))) true (Nat.beq f 73)
noncomputable abbrev muF29 (f:Nat):Bool:=Bool.rec (Bool.rec (muF28 f) true (Nat.beq f (1000000+118))) true (Nat.beq f 118)
noncomputable abbrev muF30 (f:Nat):Bool:=Bool.rec (Bool.rec (muF29 f) true (Nat.beq f (2000000+118))) true (Nat.beq f (2000000+101))
noncomputable abbrev muF31 (f:Nat):Bool:=Bool.rec (Bool.rec (muF30 f) true (Nat.beq f (2000000+9))) true (Nat.beq f 9)
noncomputable abbrev muF (f:Nat):Bool:=muF31 f
theorem muF_at0:muF 269=true:=by kernel_rfl
attribute [go_sem] muF_at0
theorem muF_at1:muF 238=true:=by kernel_rfl
attribute [go_sem] muF_at1
theorem muF_at2:muF 219=true:=by kernel_rfl
attribute [go_sem] muF_at2
theorem muF_at3:muF 281=true:=by kernel_rfl
attribute [go_sem] muF_at3
theorem muF_at4:muF 280=true:=by kernel_rfl
attribute [go_sem] muF_at4
theorem muF_at5:muF 220=true:=by kernel_rfl
attribute [go_sem] muF_at5
theorem muF_at6:muF 239=true:=by kernel_rfl
attribute [go_sem] muF_at6
theorem muF_at7:muF 145=true:=by kernel_rfl
theorem muF_in7:muF (1000000+145)=true:=by kernel_rfl
attribute [go_sem] muF_at7 muF_in7
theorem muF_at8:muF 170=true:=by kernel_rfl
theorem muF_in8:muF (1000000+170)=true:=by kernel_rfl
attribute [go_sem] muF_at8 muF_in8
theorem muF_at9:muF 66=true:=by kernel_rfl
theorem muF_in9:muF (1000000+66)=true:=by kernel_rfl
attribute [go_sem] muF_at9 muF_in9
theorem muF_at10:muF 101=true:=by kernel_rfl
theorem muF_in10:muF (1000000+101)=true:=by kernel_rfl
attribute [go_sem] muF_at10 muF_in10
theorem muF_at11:muF 120=true:=by kernel_rfl
theorem muF_in11:muF (1000000+120)=true:=by kernel_rfl
attribute [go_sem] muF_at11 muF_in11
theorem muF_at12:muF 103=true:=by kernel_rfl
theorem muF_in12:muF (1000000+103)=true:=by kernel_rfl
attribute [go_sem] muF_at12 muF_in12
theorem muF_at13:muF 106=true:=by kernel_rfl
theorem muF_in13:muF (1000000+106)=true:=by kernel_rfl
attribute [go_sem] muF_at13 muF_in13
theorem muF_at14:muF 171=true:=by kernel_rfl
theorem muF_in14:muF (1000000+171)=true:=by kernel_rfl
attribute [go_sem] muF_at14 muF_in14
theorem muF_at15:muF 205=true:=by kernel_rfl
theorem muF_in15:muF (1000000+205)=true:=by kernel_rfl
attribute [go_sem] muF_at15 muF_in15
theorem muF_at16:muF 172=true:=by kernel_rfl
theorem muF_in16:muF (1000000+172)=true:=by kernel_rfl
attribute [go_sem] muF_at16 muF_in16
theorem muF_at25:muF 277=true:=by kernel_rfl
theorem muF_in25:muF (1000000+277)=true:=by kernel_rfl
attribute [go_sem] muF_at25 muF_in25
theorem muF_at26:muF 33=true:=by kernel_rfl
theorem muF_in26:muF (1000000+33)=true:=by kernel_rfl
attribute [go_sem] muF_at26 muF_in26
theorem muF_at27:muF 64=true:=by kernel_rfl
theorem muF_in27:muF (1000000+64)=true:=by kernel_rfl
attribute [go_sem] muF_at27 muF_in27
theorem muF_at28:muF 73=true:=by kernel_rfl
theorem muF_in28:muF (1000000+73)=true:=by kernel_rfl
attribute [go_sem] muF_at28 muF_in28
theorem muF_at29:muF 118=true:=by kernel_rfl
theorem muF_in29:muF (1000000+118)=true:=by kernel_rfl
attribute [go_sem] muF_at29 muF_in29
theorem muF_at31:muF 9=true:=by kernel_rfl
attribute [go_sem] muF_at31
def GMet (G:List (Nat×Value)):Prop := ∃m:Int,(2,Value.int .i64 m)∈G
noncomputable def xS:Callf:=fun g args=>
 if Nat.beq g 263 then xIndex args else
 if Nat.beq g 341 then xCmp args else
 if Nat.beq g 360 then xCount args else
 if Nat.beq g 36 then xTrim args else
 if Nat.beq g 91 then xTrimLeft args else
 if Nat.beq g 65 then xJoin args else
 if Nat.beq g 37 then xAtoi args else
 if Nat.beq g 39 then xCut args else
 if Nat.beq g 60 then xFields 61 args else
 cloneX 196 g args
theorem xS_none (f:FuncId) (k:Bool) (st:St) (vs:List TV):xS f [.st k st vs]=none:=by
 have no : ∀ {c:Prop} [Decidable c] {a b:Option (Ret×List (Option (List SV)))},a=none->b=none->(if c then a else b)=none:=fun h1 h2=>by split<;>assumption
 unfold xS cloneX
 repeat (refine no rfl ?_)
 rfl
noncomputable def CB:Cx:={ P:=Tryz.prog,X:=xS,mu:=muF,good:=good }
theorem CB_P:CB.P=Tryz.prog:=_root_.id rfl
theorem CB_mu (f:Nat):CB.mu f=muF f:=_root_.id rfl
attribute [go_sem] CB_P CB_mu
noncomputable def xT:Callf:=fun g args=>
 if Nat.beq g 326 then xGenSplit args else
 xS g args
noncomputable def CZ:Cx:={ P:=Tryz.prog,X:=xT,mu:=muF,good:=good }
theorem CZ_P:CZ.P=Tryz.prog:=_root_.id rfl
theorem CZ_mu (f:Nat):CZ.mu f=muF f:=_root_.id rfl
noncomputable def XL:Callf:=fun g args=>if Nat.beq g 267 then (match args with
  | [.sv s,.sv (.int .u64 (.ofNat k)),.sv (.int .i64 (.ofNat n))]=>match decV s with
   |some xs=>if k<32/\xs.length<=n/\n<=xs.length+1 then some (.row ((limN n (wth xs*2^k)).map limb) 1 0 n,[none,none,none]) else none
   |none=>none
  |_=>none) else
 if Nat.beq g 276 then xSplit args else
 if Nat.beq g 205 then xIns args else
 if Nat.beq g 172 then xDel args else
 CZ.X g args
noncomputable def CX:Cx:={ CZ with X:=XL }
theorem CX_P:CX.P=Tryz.prog:=_root_.id rfl
theorem CX_mu (f:Nat):CX.mu f=muF f:=_root_.id rfl
attribute [go_sem] CZ_P CZ_mu CX_P CX_mu Nat.reduceBEq
end Go.Proofs.YtheclpmgipiejaaGreatDoor
namespace Go.Proofs
open Go.Shelf
def Tryz.lays156_ren:Go.Shelf.Ren:=⟨fun|156=>65|165=>102|166=>31|169=>34|240=>62|241=>146|276=>98|277=>207|n=>n,fun|31=>22|9=>9|3=>3|4=>4|0=>0|20=>20|72=>65|76=>72|70=>62|37=>63|75=>71|127=>107|164=>126|5=>5|80=>76|n=>n,fun|n=>n⟩
theorem Tryz.lays156:Go.Proofs.Lays.n156 Tryz.prog Tryz.lays156_ren:={
 mixed:=by kernel_rfl
 f156:=Tryz.func65.trans (congrArg some (by kernel_rfl))
 f165:=Tryz.func102.trans (congrArg some (by kernel_rfl))
 f166:=Tryz.func31.trans (congrArg some (by kernel_rfl))
 f169:=Tryz.func34.trans (congrArg some (by kernel_rfl))
 f240:=Tryz.func62.trans (congrArg some (by kernel_rfl))
 f241:=Tryz.func146.trans (congrArg some (by kernel_rfl))
 f276:=Tryz.func98.trans (congrArg some (by kernel_rfl))
 f277:=Tryz.func207.trans (congrArg some (by kernel_rfl))
 t0:=Tryz.underlying0
 a0:=Tryz.isAgg0
 z0:=Tryz.sizeOf0
 v0:=Tryz.zeroValue0
 t3:=Tryz.underlying3
 a3:=Tryz.isAgg3
 z3:=Tryz.sizeOf3
 v3:=Tryz.zeroValue3
 t4:=Tryz.underlying4
 a4:=Tryz.isAgg4
 z4:=Tryz.sizeOf4
 v4:=Tryz.zeroValue4
 t9:=Tryz.underlying9
 a9:=Tryz.isAgg9
 z9:=Tryz.sizeOf9
 v9:=Tryz.zeroValue9
 t20:=Tryz.underlying20
 a20:=Tryz.isAgg20
 z20:=Tryz.sizeOf20
 v20:=Tryz.zeroValue20
 t31:=Tryz.underlying22
 a31:=Tryz.isAgg22
 z31:=Tryz.sizeOf22
 v31:=Tryz.zeroValue22
 t37:=Tryz.underlying63
 a37:=Tryz.isAgg63
 z37:=Tryz.sizeOf63
 v37:=Tryz.zeroValue63
 t70:=Tryz.underlying62
 a70:=Tryz.isAgg62
 z70:=Tryz.sizeOf62
 v70:=Tryz.zeroValue62
 t72:=Tryz.underlying65
 a72:=Tryz.isAgg65
 z72:=Tryz.sizeOf65
 v72:=Tryz.zeroValue65
 t75:=Tryz.underlying71
 a75:=Tryz.isAgg71
 z75:=Tryz.sizeOf71
 v75:=Tryz.zeroValue71
 t76:=Tryz.underlying72
 a76:=Tryz.isAgg72
 z76:=Tryz.sizeOf72
 v76:=Tryz.zeroValue72
 t127:=Tryz.underlying107
 a127:=Tryz.isAgg107
 z127:=Tryz.sizeOf107
 v127:=Tryz.zeroValue107
 t164:=Tryz.underlying126
 a164:=Tryz.isAgg126
 z164:=Tryz.sizeOf126
 v164:=Tryz.zeroValue126 }
theorem Tryz.Builder_Extra_156:Builder.Extra Tryz.prog Tryz.lays156_ren:={
 sizeBuilder:=by kernel_rfl
 liesBuilder:=by kernel_rfl
 t5:=Tryz.underlying5
 a5:=Tryz.isAgg5
 z5:=Tryz.sizeOf5
 v5:=Tryz.zeroValue5
 infoByte:=by kernel_rfl
 cellsByte:=by kernel_rfl
 sizeByte:=by kernel_rfl
 neB5:=by decide }
def Tryz.lays160_ren:Go.Shelf.Ren:=⟨fun|160=>36|232=>77|231=>76|227=>78|234=>80|233=>79|236=>82|235=>81|228=>126|271=>128|151=>127|197=>97|120=>187|152=>186|260=>141|137=>203|119=>260|224=>194|225=>193|217=>192|266=>263|n=>n,fun|9=>9|4=>4|3=>3|5=>5|117=>111|116=>110|0=>0|124=>114|21=>21|105=>121|46=>94|119=>215|139=>218|138=>217|n=>n,fun|3=>3|4=>4|n=>n⟩
theorem Tryz.lays160:Go.Proofs.Lays.n160 Tryz.prog Tryz.lays160_ren:={
 mixed:=by kernel_rfl
 f119:=Tryz.func260.trans (congrArg some (by kernel_rfl))
 f120:=Tryz.func187.trans (congrArg some (by kernel_rfl))
 f137:=Tryz.func203.trans (congrArg some (by kernel_rfl))
 f151:=Tryz.func127.trans (congrArg some (by kernel_rfl))
 f152:=Tryz.func186.trans (congrArg some (by kernel_rfl))
 f160:=Tryz.func36.trans (congrArg some (by kernel_rfl))
 f197:=Tryz.func97.trans (congrArg some (by kernel_rfl))
 f217:=Tryz.func192.trans (congrArg some (by kernel_rfl))
 f224:=Tryz.func194.trans (congrArg some (by kernel_rfl))
 f225:=Tryz.func193.trans (congrArg some (by kernel_rfl))
 f227:=Tryz.func78.trans (congrArg some (by kernel_rfl))
 f228:=Tryz.func126.trans (congrArg some (by kernel_rfl))
 f231:=Tryz.func76.trans (congrArg some (by kernel_rfl))
 f232:=Tryz.func77.trans (congrArg some (by kernel_rfl))
 f233:=Tryz.func79.trans (congrArg some (by kernel_rfl))
 f234:=Tryz.func80.trans (congrArg some (by kernel_rfl))
 f235:=Tryz.func81.trans (congrArg some (by kernel_rfl))
 f236:=Tryz.func82.trans (congrArg some (by kernel_rfl))
 f260:=Tryz.func141.trans (congrArg some (by kernel_rfl))
 f266:=Tryz.func263.trans (congrArg some (by kernel_rfl))
 f271:=Tryz.func128.trans (congrArg some (by kernel_rfl))
 t0:=Tryz.underlying0
 a0:=Tryz.isAgg0
 z0:=Tryz.sizeOf0
 v0:=Tryz.zeroValue0
 t3:=Tryz.underlying3
 a3:=Tryz.isAgg3
 z3:=Tryz.sizeOf3
 v3:=Tryz.zeroValue3
 t4:=Tryz.underlying4
 a4:=Tryz.isAgg4
 z4:=Tryz.sizeOf4
 v4:=Tryz.zeroValue4
 t5:=Tryz.underlying5
 a5:=Tryz.isAgg5
 z5:=Tryz.sizeOf5
 v5:=Tryz.zeroValue5
 t9:=Tryz.underlying9
 a9:=Tryz.isAgg9
 z9:=Tryz.sizeOf9
 v9:=Tryz.zeroValue9
 t21:=Tryz.underlying21
 a21:=Tryz.isAgg21
 z21:=Tryz.sizeOf21
 v21:=Tryz.zeroValue21
 t46:=Tryz.underlying94
 a46:=Tryz.isAgg94
 z46:=Tryz.sizeOf94
 v46:=Tryz.zeroValue94
 t105:=Tryz.underlying121
 a105:=Tryz.isAgg121
 z105:=Tryz.sizeOf121
 v105:=Tryz.zeroValue121
 t116:=Tryz.underlying110
 a116:=Tryz.isAgg110
 z116:=Tryz.sizeOf110
 t117:=Tryz.underlying111
 a117:=Tryz.isAgg111
 z117:=Tryz.sizeOf111
 v117:=Tryz.zeroValue111
 t119:=Tryz.underlying215
 a119:=Tryz.isAgg215
 z119:=Tryz.sizeOf215
 t124:=Tryz.underlying114
 a124:=Tryz.isAgg114
 z124:=Tryz.sizeOf114
 v124:=Tryz.zeroValue114
 t138:=Tryz.underlying217
 a138:=Tryz.isAgg217
 z138:=Tryz.sizeOf217
 v138:=Tryz.zeroValue217
 t139:=Tryz.underlying218
 a139:=Tryz.isAgg218
 z139:=Tryz.sizeOf218
 v139:=Tryz.zeroValue218
 g3:=by kernel_rfl
 g4:=by kernel_rfl }
def Tryz.lays161_ren:Go.Shelf.Ren:=⟨fun|161=>91|231=>76|227=>78|233=>79|235=>81|228=>126|197=>97|151=>127|260=>141|152=>186|137=>203|119=>260|224=>194|225=>193|217=>192|266=>263|n=>n,fun|9=>9|4=>4|3=>3|5=>5|117=>111|116=>110|0=>0|124=>114|105=>121|21=>21|119=>215|46=>94|139=>218|138=>217|n=>n,fun|3=>3|4=>4|n=>n⟩
theorem Tryz.lays161:Go.Proofs.Lays.n161 Tryz.prog Tryz.lays161_ren:={
 mixed:=by kernel_rfl
 f119:=Tryz.func260.trans (congrArg some (by kernel_rfl))
 f137:=Tryz.func203.trans (congrArg some (by kernel_rfl))
 f151:=Tryz.func127.trans (congrArg some (by kernel_rfl))
 f152:=Tryz.func186.trans (congrArg some (by kernel_rfl))
 f161:=Tryz.func91.trans (congrArg some (by kernel_rfl))
 f197:=Tryz.func97.trans (congrArg some (by kernel_rfl))
 f217:=Tryz.func192.trans (congrArg some (by kernel_rfl))
 f224:=Tryz.func194.trans (congrArg some (by kernel_rfl))
 f225:=Tryz.func193.trans (congrArg some (by kernel_rfl))
 f227:=Tryz.func78.trans (congrArg some (by kernel_rfl))
 f228:=Tryz.func126.trans (congrArg some (by kernel_rfl))
 f231:=Tryz.func76.trans (congrArg some (by kernel_rfl))
 f233:=Tryz.func79.trans (congrArg some (by kernel_rfl))
 f235:=Tryz.func81.trans (congrArg some (by kernel_rfl))
 f260:=Tryz.func141.trans (congrArg some (by kernel_rfl))
 f266:=Tryz.func263.trans (congrArg some (by kernel_rfl))
 t0:=Tryz.underlying0
 a0:=Tryz.isAgg0
 z0:=Tryz.sizeOf0
 v0:=Tryz.zeroValue0
 t3:=Tryz.underlying3
 a3:=Tryz.isAgg3
 z3:=Tryz.sizeOf3
 v3:=Tryz.zeroValue3
 t4:=Tryz.underlying4
 a4:=Tryz.isAgg4
 z4:=Tryz.sizeOf4
 v4:=Tryz.zeroValue4
 t5:=Tryz.underlying5
 a5:=Tryz.isAgg5
 z5:=Tryz.sizeOf5
 v5:=Tryz.zeroValue5
 t9:=Tryz.underlying9
 a9:=Tryz.isAgg9
 z9:=Tryz.sizeOf9
 v9:=Tryz.zeroValue9
 t21:=Tryz.underlying21
 a21:=Tryz.isAgg21
 z21:=Tryz.sizeOf21
 v21:=Tryz.zeroValue21
 t46:=Tryz.underlying94
 a46:=Tryz.isAgg94
 z46:=Tryz.sizeOf94
 v46:=Tryz.zeroValue94
 t105:=Tryz.underlying121
 a105:=Tryz.isAgg121
 z105:=Tryz.sizeOf121
 v105:=Tryz.zeroValue121
 t116:=Tryz.underlying110
 a116:=Tryz.isAgg110
 z116:=Tryz.sizeOf110
 t117:=Tryz.underlying111
 a117:=Tryz.isAgg111
 z117:=Tryz.sizeOf111
 v117:=Tryz.zeroValue111
 t119:=Tryz.underlying215
 a119:=Tryz.isAgg215
 z119:=Tryz.sizeOf215
 t124:=Tryz.underlying114
 a124:=Tryz.isAgg114
 z124:=Tryz.sizeOf114
 v124:=Tryz.zeroValue114
 t138:=Tryz.underlying217
 a138:=Tryz.isAgg217
 z138:=Tryz.sizeOf217
 v138:=Tryz.zeroValue217
 t139:=Tryz.underlying218
 a139:=Tryz.isAgg218
 z139:=Tryz.sizeOf218
 v139:=Tryz.zeroValue218
 g3:=by kernel_rfl
 g4:=by kernel_rfl }
def Tryz.lays172_ren:Go.Shelf.Ren:=⟨fun|172=>37|244=>83|245=>84|247=>129|279=>130|280=>131|281=>132|282=>133|287=>188|316=>189|171=>63|205=>190|321=>261|322=>262|243=>99|246=>142|283=>199|284=>200|285=>201|286=>202|129=>272|317=>271|318=>273|319=>274|320=>275|337=>324|338=>325|n=>n,fun|9=>9|3=>3|75=>71|76=>72|4=>4|5=>5|167=>169|37=>63|0=>0|85=>170|2=>2|168=>172|53=>81|175=>205|46=>94|210=>208|127=>107|145=>264|143=>262|21=>21|171=>219|173=>222|212=>270|51=>54|20=>20|213=>271|232=>313|233=>314|80=>76|n=>n,fun|15=>0|16=>1|17=>5|18=>7|19=>8|n=>n⟩
theorem Tryz.lays172:Go.Proofs.Lays.n172 Tryz.prog Tryz.lays172_ren:={
 mixed:=by kernel_rfl
 f129:=Tryz.func272.trans (congrArg some (by kernel_rfl))
 f171:=Tryz.func63.trans (congrArg some (by kernel_rfl))
 f172:=Tryz.func37.trans (congrArg some (by kernel_rfl))
 f205:=Tryz.func190.trans (congrArg some (by kernel_rfl))
 f243:=Tryz.func99.trans (congrArg some (by kernel_rfl))
 f244:=Tryz.func83.trans (congrArg some (by kernel_rfl))
 f245:=Tryz.func84.trans (congrArg some (by kernel_rfl))
 f246:=Tryz.func142.trans (congrArg some (by kernel_rfl))
 f247:=Tryz.func129.trans (congrArg some (by kernel_rfl))
 f279:=Tryz.func130.trans (congrArg some (by kernel_rfl))
 f280:=Tryz.func131.trans (congrArg some (by kernel_rfl))
 f281:=Tryz.func132.trans (congrArg some (by kernel_rfl))
 f282:=Tryz.func133.trans (congrArg some (by kernel_rfl))
 f283:=Tryz.func199.trans (congrArg some (by kernel_rfl))
 f284:=Tryz.func200.trans (congrArg some (by kernel_rfl))
 f285:=Tryz.func201.trans (congrArg some (by kernel_rfl))
 f286:=Tryz.func202.trans (congrArg some (by kernel_rfl))
 f287:=Tryz.func188.trans (congrArg some (by kernel_rfl))
 f316:=Tryz.func189.trans (congrArg some (by kernel_rfl))
 f317:=Tryz.func271.trans (congrArg some (by kernel_rfl))
 f318:=Tryz.func273.trans (congrArg some (by kernel_rfl))
 f319:=Tryz.func274.trans (congrArg some (by kernel_rfl))
 f320:=Tryz.func275.trans (congrArg some (by kernel_rfl))
 f321:=Tryz.func261.trans (congrArg some (by kernel_rfl))
 f322:=Tryz.func262.trans (congrArg some (by kernel_rfl))
 f337:=Tryz.func324.trans (congrArg some (by kernel_rfl))
 f338:=Tryz.func325.trans (congrArg some (by kernel_rfl))
 t0:=Tryz.underlying0
 a0:=Tryz.isAgg0
 z0:=Tryz.sizeOf0
 v0:=Tryz.zeroValue0
 t2:=Tryz.underlying2
 a2:=Tryz.isAgg2
 z2:=Tryz.sizeOf2
 v2:=Tryz.zeroValue2
 t3:=Tryz.underlying3
 a3:=Tryz.isAgg3
 z3:=Tryz.sizeOf3
 v3:=Tryz.zeroValue3
 t4:=Tryz.underlying4
 a4:=Tryz.isAgg4
 z4:=Tryz.sizeOf4
 v4:=Tryz.zeroValue4
 t5:=Tryz.underlying5
 a5:=Tryz.isAgg5
 z5:=Tryz.sizeOf5
 v5:=Tryz.zeroValue5
 t9:=Tryz.underlying9
 a9:=Tryz.isAgg9
 z9:=Tryz.sizeOf9
 v9:=Tryz.zeroValue9
 t20:=Tryz.underlying20
 a20:=Tryz.isAgg20
 z20:=Tryz.sizeOf20
 v20:=Tryz.zeroValue20
 t21:=Tryz.underlying21
 a21:=Tryz.isAgg21
 z21:=Tryz.sizeOf21
 v21:=Tryz.zeroValue21
 t37:=Tryz.underlying63
 a37:=Tryz.isAgg63
 z37:=Tryz.sizeOf63
 v37:=Tryz.zeroValue63
 t46:=Tryz.underlying94
 a46:=Tryz.isAgg94
 z46:=Tryz.sizeOf94
 v46:=Tryz.zeroValue94
 t51:=Tryz.underlying54
 a51:=Tryz.isAgg54
 z51:=Tryz.sizeOf54
 v51:=Tryz.zeroValue54
 t53:=Tryz.underlying81
 a53:=Tryz.isAgg81
 z53:=Tryz.sizeOf81
 v53:=Tryz.zeroValue81
 t75:=Tryz.underlying71
 a75:=Tryz.isAgg71
 z75:=Tryz.sizeOf71
 v75:=Tryz.zeroValue71
 t76:=Tryz.underlying72
 a76:=Tryz.isAgg72
 z76:=Tryz.sizeOf72
 v76:=Tryz.zeroValue72
 t85:=Tryz.underlying170
 a85:=Tryz.isAgg170
 z85:=Tryz.sizeOf170
 v85:=Tryz.zeroValue170
 t127:=Tryz.underlying107
 a127:=Tryz.isAgg107
 z127:=Tryz.sizeOf107
 v127:=Tryz.zeroValue107
 t143:=Tryz.underlying262
 a143:=Tryz.isAgg262
 z143:=Tryz.sizeOf262
 v143:=Tryz.zeroValue262
 t145:=Tryz.underlying264
 a145:=Tryz.isAgg264
 z145:=Tryz.sizeOf264
 v145:=Tryz.zeroValue264
 t167:=Tryz.underlying169
 a167:=Tryz.isAgg169
 z167:=Tryz.sizeOf169
 v167:=Tryz.zeroValue169
 t168:=Tryz.underlying172
 a168:=Tryz.isAgg172
 z168:=Tryz.sizeOf172
 v168:=Tryz.zeroValue172
 t171:=Tryz.underlying219
 a171:=Tryz.isAgg219
 z171:=Tryz.sizeOf219
 v171:=Tryz.zeroValue219
 t173:=Tryz.underlying222
 a173:=Tryz.isAgg222
 z173:=Tryz.sizeOf222
 v173:=Tryz.zeroValue222
 t175:=Tryz.underlying205
 a175:=Tryz.isAgg205
 z175:=Tryz.sizeOf205
 v175:=Tryz.zeroValue205
 t210:=Tryz.underlying208
 a210:=Tryz.isAgg208
 z210:=Tryz.sizeOf208
 v210:=Tryz.zeroValue208
 t212:=Tryz.underlying270
 a212:=Tryz.isAgg270
 z212:=Tryz.sizeOf270
 v212:=Tryz.zeroValue270
 t213:=Tryz.underlying271
 a213:=Tryz.isAgg271
 z213:=Tryz.sizeOf271
 t232:=Tryz.underlying313
 a232:=Tryz.isAgg313
 z232:=Tryz.sizeOf313
 v232:=Tryz.zeroValue313
 t233:=Tryz.underlying314
 a233:=Tryz.isAgg314
 z233:=Tryz.sizeOf314
 v233:=Tryz.zeroValue314
 g15:=by kernel_rfl
 g16:=by kernel_rfl
 g17:=by kernel_rfl
 g18:=by kernel_rfl
 g19:=by kernel_rfl }
def Tryz.lays145_ren:Go.Shelf.Ren:=⟨fun|145=>39|220=>86|219=>135|217=>192|225=>193|224=>194|267=>195|266=>263|314=>264|n=>n,fun|9=>9|4=>4|59=>78|3=>3|5=>5|46=>94|146=>227|51=>54|n=>n,fun|1=>2|n=>n⟩
theorem Tryz.lays145:Go.Proofs.Lays.n145 Tryz.prog Tryz.lays145_ren:={
 mixed:=by kernel_rfl
 f145:=Tryz.func39.trans (congrArg some (by kernel_rfl))
 f217:=Tryz.func192.trans (congrArg some (by kernel_rfl))
 f219:=Tryz.func135.trans (congrArg some (by kernel_rfl))
 f220:=Tryz.func86.trans (congrArg some (by kernel_rfl))
 f224:=Tryz.func194.trans (congrArg some (by kernel_rfl))
 f225:=Tryz.func193.trans (congrArg some (by kernel_rfl))
 f266:=Tryz.func263.trans (congrArg some (by kernel_rfl))
 f267:=Tryz.func195.trans (congrArg some (by kernel_rfl))
 f314:=Tryz.func264.trans (congrArg some (by kernel_rfl))
 t3:=Tryz.underlying3
 a3:=Tryz.isAgg3
 z3:=Tryz.sizeOf3
 v3:=Tryz.zeroValue3
 t4:=Tryz.underlying4
 a4:=Tryz.isAgg4
 z4:=Tryz.sizeOf4
 v4:=Tryz.zeroValue4
 t5:=Tryz.underlying5
 a5:=Tryz.isAgg5
 z5:=Tryz.sizeOf5
 v5:=Tryz.zeroValue5
 t9:=Tryz.underlying9
 a9:=Tryz.isAgg9
 z9:=Tryz.sizeOf9
 v9:=Tryz.zeroValue9
 t46:=Tryz.underlying94
 a46:=Tryz.isAgg94
 z46:=Tryz.sizeOf94
 v46:=Tryz.zeroValue94
 t51:=Tryz.underlying54
 a51:=Tryz.isAgg54
 z51:=Tryz.sizeOf54
 v51:=Tryz.zeroValue54
 t59:=Tryz.underlying78
 a59:=Tryz.isAgg78
 z59:=Tryz.sizeOf78
 v59:=Tryz.zeroValue78
 t146:=Tryz.underlying227
 a146:=Tryz.isAgg227
 z146:=Tryz.sizeOf227
 v146:=Tryz.zeroValue227
 g1:=by kernel_rfl }
def Tryz.lays229_ren:Go.Shelf.Ren:=⟨fun|229=>60|n=>n,fun|9=>9|40=>102|31=>22|152=>123|3=>3|0=>0|4=>4|21=>21|154=>125|n=>n,fun|n=>n⟩
theorem Tryz.lays229:Go.Proofs.Lays.n229 Tryz.prog Tryz.lays229_ren:={
 mixed:=by kernel_rfl
 f229:=Tryz.func60.trans (congrArg some (by kernel_rfl))
 t0:=Tryz.underlying0
 a0:=Tryz.isAgg0
 z0:=Tryz.sizeOf0
 v0:=Tryz.zeroValue0
 t3:=Tryz.underlying3
 a3:=Tryz.isAgg3
 z3:=Tryz.sizeOf3
 v3:=Tryz.zeroValue3
 t4:=Tryz.underlying4
 a4:=Tryz.isAgg4
 z4:=Tryz.sizeOf4
 v4:=Tryz.zeroValue4
 t9:=Tryz.underlying9
 a9:=Tryz.isAgg9
 z9:=Tryz.sizeOf9
 v9:=Tryz.zeroValue9
 t21:=Tryz.underlying21
 a21:=Tryz.isAgg21
 z21:=Tryz.sizeOf21
 v21:=Tryz.zeroValue21
 t31:=Tryz.underlying22
 a31:=Tryz.isAgg22
 z31:=Tryz.sizeOf22
 v31:=Tryz.zeroValue22
 t40:=Tryz.underlying102
 a40:=Tryz.isAgg102
 z40:=Tryz.sizeOf102
 v40:=Tryz.zeroValue102
 t152:=Tryz.underlying123
 a152:=Tryz.isAgg123
 z152:=Tryz.sizeOf123
 v152:=Tryz.zeroValue123
 t154:=Tryz.underlying125
 a154:=Tryz.isAgg125
 z154:=Tryz.sizeOf125
 v154:=Tryz.zeroValue125 }
end Go.Proofs
namespace Go.Proofs.YtheclpmgipiejaaGreatDoor
open Go.RowKit Go.Lib
theorem words1_pays (w:World):PredAtRunes Tryz.prog 61 #[] (fun r=>r==32) w:=fun W r _ _=>by
 unfold FnGives
 go_enter Tryz.func61,Tryz.ntmps61
 go_wp2
 go_ret
 have e:((r:Int)==32)=(r==32):=by rw[Bool.eq_iff_iff];simp only[beq_iff_eq];omega
 exact⟨by rw[<- e];rfl,0,rfl⟩
end Go.Proofs.YtheclpmgipiejaaGreatDoor
namespace Go.Proofs.YtheclpmgipiejaaGreatDoor
open Go.Ev Go.RowKit
noncomputable def C0:Cx:={ P:=Tryz.prog,X:=fun _ _=>none,mu:=fun _=>false,good:=fun _=>false }
theorem C0_P:C0.P=Tryz.prog:=rfl
theorem clone_ok0 {G:List (Nat×Value)}:CallOk Tryz.prog G (cloneX 196):=by
 refine cloneX_ok (f:=196) (fn:=Tryz.f196) (e:=(54,1,4)) (by kernel_rfl) (by kernel_rfl) rfl (Nat.lt_of_lt_of_le (Nat.lt_succ_self 4) (Nat.le_of_ble_eq_true (by kernel_rfl))) (by kernel_rfl) fun n cs => ?_
 refine⟨20,_,rfl,rfl,⟨20,_,rfl,rfl⟩,fun h1 h2 h3 => ?_⟩
 have hC : ∀m,CallAll Tryz.prog G (callN C0.P C0.X C0.mu C0.good m):=fun m=>callN_all (tabOk_of (fun g args r exps h=>by cases h) (fun _ _ _ _=>rfl)) (fun f fn h=>by cases h) _ m
 suffices h : ∀ {c:Code} {st:St},WP C0 c st (fun e s=>e = .ret/\retOf Tryz.prog s Tryz.f196.results.toList=some (.sv (.sl n cs))) -> ∃call mu k st',CallAll Tryz.prog G call/\exec Tryz.prog call mu k c st=some (.ret,st')/\retOf Tryz.prog st' Tryz.f196.results.toList=some (.sv (.sl n cs)) by
  refine h ?_
  have hlen:(List.length cs:Nat)=n*1:=by omega
  have h2':cs.all SV.one=true:=h2
  have h5:(5<N0)=True:=by simp[N0]
  have hr:Tryz.f196.results.toList=[.tmp 2]:=by kernel_rfl
  rcases Nat.eq_zero_or_pos n with rfl|hn
  ·have:cs=[]:=List.eq_nil_of_length_eq_zero h1
   subst this
   simp only[go_sem,C0_P,h1,h2,h2',h3,h5,hr,elemsC,Nat.zero_le,Nat.mul_one,Nat.zero_mul,Nat.zero_add,retOf,resTV,outSV]
  ·have hn0 : ¬n=0:=by omega
   simp only[go_sem,C0_P,h1,h2,h2',h3,h5,hn0,hr,elemsC,Nat.zero_le,Nat.mul_one,Nat.zero_mul,Nat.zero_add,retOf,resTV,outSV]
   rw[List.take_of_length_le (by omega)]
 rintro c st ⟨m,e,s,he,rfl,hr⟩
 exact⟨_,_,m,s,hC m,he,hr⟩
theorem xS_ok {G:List (Nat×Value)} (hG:GMet G):CallOk Tryz.prog G xS:=by
 intro g args r exps h
 unfold xS at h
 split at h
 ·rename_i hg
  rw[show g=263 from Nat.eq_of_beq_eq_true hg]
  refine fun w F B vals _=>index_at (fn:=Tryz.f263) (by kernel_rfl) (by kernel_rfl) (by kernel_rfl) (by kernel_rfl) (by kernel_rfl) h w F B vals
 split at h
 ·rename_i hg
  rw[show g=341 from Nat.eq_of_beq_eq_true hg]
  refine fun w F B vals _=>cmp_at (fn:=Tryz.f341) (by kernel_rfl) (by kernel_rfl) (by kernel_rfl) (by kernel_rfl) (by kernel_rfl) h w F B vals
 split at h
 ·rename_i hg
  rw[show g=360 from Nat.eq_of_beq_eq_true hg]
  refine fun w F B vals _=>count_at (fn:=Tryz.f360) (by kernel_rfl) (by kernel_rfl) (by kernel_rfl) (by kernel_rfl) (by kernel_rfl) h w F B vals
 split at h
 ·rename_i hg
  rw[show g=36 from Nat.eq_of_beq_eq_true hg]
  refine fun w F B vals _=>trim_at (enters_of (fn:=Tryz.f36) (c:=(Tryz.f36).body.get!) (by kernel_rfl) (by kernel_rfl) (by kernel_rfl)) (fun s c w h1 h2 h3=>Any.strings_Trim_laid Tryz.lays160 (by kernel_rfl) s c w h1 h2 h3) h w F B vals
 split at h
 ·rename_i hg
  rw[show g=91 from Nat.eq_of_beq_eq_true hg]
  refine fun w F B vals _=>trimLeft_at (enters_of (fn:=Tryz.f91) (c:=(Tryz.f91).body.get!) (by kernel_rfl) (by kernel_rfl) (by kernel_rfl)) (fun s c w h2 h3=>Any.strings_TrimLeft_laid Tryz.lays161 (by kernel_rfl) s c w h2 h3) h w F B vals
 split at h
 ·rename_i hg
  rw[show g=65 from Nat.eq_of_beq_eq_true hg]
  refine fun w F B vals _=>join_at (enters_of (fn:=Tryz.f65) (c:=(Tryz.f65).body.get!) (by kernel_rfl) (by kernel_rfl) (by kernel_rfl)) (fun a c sep w=>Any.strings_Join_none Tryz.lays156 Tryz.Builder_Extra_156 a c sep w) (fun bk o c xs sep w h1 h2 h3 h4 h5=>Any.strings_Join Tryz.lays156 Tryz.Builder_Extra_156 bk o c xs sep w h1 h2 h3 h4 h5) h w F B vals
 split at h
 ·rename_i hg
  rw[show g=37 from Nat.eq_of_beq_eq_true hg]
  refine fun w F B vals _=>atoi_at (enters_of (fn:=Tryz.f37) (c:=(Tryz.f37).body.get!) (by kernel_rfl) (by kernel_rfl) (by kernel_rfl)) (fun s v w h1 h2=>(Any.strconv_Atoi Tryz.lays172 s v h1 h2 w).mono (by rintro e w' ⟨h3,t,rfl⟩;exact⟨h3,⟨rfl,rfl,rfl,by rw[Lib.bytesWorld_size];omega,fun k hk=>Lib.bytesWorld_at_old w _ t k hk⟩⟩)) h w F B vals
 split at h
 ·rename_i hg
  rw[show g=39 from Nat.eq_of_beq_eq_true hg]
  obtain⟨m,hm⟩:=hG
  exact cut_at (enters_of (fn:=Tryz.f39) (c:=(Tryz.f39).body.get!) (by kernel_rfl) (by kernel_rfl) (by kernel_rfl)) hm (fun s c w h1 h2=>Any.strings_Cut Tryz.lays145 s c m w h1 h2) h
 split at h
 ·rename_i hg
  rw[show g=60 from Nat.eq_of_beq_eq_true hg]
  refine fun w F B vals _=>fields_at (enters_of (fn:=Tryz.f60) (c:=(Tryz.f60).body.get!) (by kernel_rfl) (by kernel_rfl) (by kernel_rfl)) (fun s w h1=>Any.strings_FieldsFunc_runes Tryz.lays229 61 #[] (enters_of (fn:=Tryz.f61) (c:=(Tryz.f61).body.get!) (by kernel_rfl) (by kernel_rfl) (by kernel_rfl)) (fun c=>c==32) s w h1 (words1_pays w) (by kernel_rfl) (by kernel_rfl)) h w F B vals
 exact clone_ok0 g args r exps h
end Go.Proofs.YtheclpmgipiejaaGreatDoor
namespace Go.Proofs.YtheclpmgipiejaaGreatDoor
open Go.Ev
theorem nat_Is (xs:List Nat) (hl:xs.length<=1099511627776):Go.Ev.Fn CX 191 [natV xs] (.bool (isT xs)):=by
 refine fni Tryz.f191 ?_;unfold Tryz.f191;simp only[Option.get!_some]
 by_cases h0:xs.length=0
 ·have e:isT xs=true:=by simp[isT,h0]
  rw[e]
  repeat (first|simp only[go_sem]|simp (disch:=first|exact oa|fail) only[AX]|refine wki ?_|refine wqn ?_|refine vpx [] ?_)
 ·have e:isT xs=(xs.getD (xs.length-1) 0 != 0):=by simp[isT,h0]
  rw[e]
  repeat (first|simp only[go_sem]|simp (disch:=first|exact oa|fail) only[AX]|refine wki ?_|refine wqn ?_|refine vpx [] ?_)
  rw[bne_nat]
theorem lim_dropLast {xs:List Nat} (h:isT xs=false):xs.length≠0/\lim (wth (xs.take (xs.length-1)))=lim (wth xs):=by
 unfold isT at h
 simp only[Bool.or_eq_false_iff,beq_eq_false_iff_ne,bne_eq_false_iff_eq]at h
 refine⟨h.1,?_⟩
 rcases xs.eq_nil_or_concat with rfl|⟨ys,z,rfl⟩
 ·rfl
 ·rw[List.concat_eq_append]at h ⊢
  have e:z=0:=by simpa using h.2
  subst e
  simp[lim_snoc0]
theorem nat_trim (xs:List Nat) (hx:okL xs) (hl:xs.length<=1099511627776):Go.Ev.Fn CX 134 [natV xs] (natV (lim (wth xs))):=by
 refine fni Tryz.f134 ?_;unfold Tryz.f134;simp only[Option.get!_some]
 simp only[go_sem]
 refine vp_loop_inv (fun s => ∃ys,s.tmp 0 = .sv (natV ys)/\okL ys/\ys.length<=xs.length/\lim (wth ys)=lim (wth xs)) (fun s=>(lenTV (s.tmp 0)).getD 0) ⟨xs,rfl,hx,Nat.le_refl _,rfl⟩ ?_
 rintro s ⟨ys,h0,hy,hle,he⟩
 repeat (first|simp only[go_sem,h0]|simp (disch:=first|exact oa|fail) only[AX,h0]|refine wki ?_|refine wqn ?_|refine vpx [] ?_)
 refine vf_of (nat_Is ys (by omega)) ?_;simp only[go_sem,h0]
 by_cases hT:isT ys=true
 ·repeat (first|simp only[go_sem,h0,hT,Bool.not_true]|simp (disch:=first|exact oa|fail) only[AX,h0,hT,Bool.not_true]|refine wki ?_|refine wqn ?_|refine vpx [] ?_)
  rw[<- he,<- lim_unique hy (isT_iff.1 hT)]
 ·have hT:isT ys=false:=by simpa using hT
  obtain⟨h1,h2⟩:=lim_dropLast hT
  repeat (first|simp only[go_sem,h0,hT,Bool.not_false]|simp (disch:=first|exact oa|fail) only[AX,h0,hT,Bool.not_false]|refine wki ?_|refine wqn ?_|refine vpx [] ?_)
  refine⟨⟨ys.take (ys.length-1),?_,okL_take hy _,?_,h2.trans he⟩,?_⟩
  ·rw[natV_cut (by omega)]
  ·rw[List.length_take];omega
  ·simp only[lenTV,Option.getD_some];omega
theorem nat_Trim (xs:List Nat) (hx:okL xs) (hl:xs.length<=274877906944):Go.Ev.Fn CX 138 [natV xs] (natV (lim (wth xs))):=by
 have hc:Go.Ev.Fn CX 196 [natV (lim (wth xs))] (natV (lim (wth xs))):=by
  refine⟨1,[none],?_⟩
  have h1:=lim_length_le hx
  have h2:=natV_one (lim (wth xs))
  have h3:cloneX 196 196 [.sv (natV (lim (wth xs)))]=some (.sv (natV (lim (wth xs))),[none]):=by
   simp only[cloneX,if_true]
   rw[if_pos ⟨natV_len _,h2,by omega⟩]
  have h4:CX.X 196 [.sv (natV (lim (wth xs)))]=some (.sv (natV (lim (wth xs))),[none]):=h3
  unfold callN
  rw[stq_sv,List.map_cons,List.map_nil,h4]
 refine fni Tryz.f138 ?_;unfold Tryz.f138;simp only[Option.get!_some]
 simp only[go_sem]
 refine vf_of (nat_trim xs hx (by omega)) ?_;simp only[go_sem]
 refine vf_of (hc) ?_;simp only[go_sem]
theorem nat_Of (n:Nat) (hn:n<18446744073709551616):Go.Ev.Fn CX 85 [.int .u64 n] (natV (lim n)):=by
 refine fni Tryz.f85 ?_;unfold Tryz.f85;simp only[Option.get!_some]
 repeat (first|simp only[go_sem]|simp (disch:=first|exact oa|fail) only[AX]|refine wki ?_|refine wqn ?_|refine vpx [] ?_)
 have e:wth [n%4294967296,n/4294967296]=n:=by simp only[wth];omega
 refine vf_of (nat_trim [n%4294967296,n/4294967296] (by simp[okL];omega) (by simp)) ?_;repeat (first|simp only[go_sem]|simp (disch:=first|exact oa|fail) only[AX]|refine wki ?_|refine wqn ?_|refine vpx [] ?_)
 rw[e]
end Go.Proofs.YtheclpmgipiejaaGreatDoor
namespace Go.Proofs.YtheclpmgipiejaaGreatDoor
open Go.Ev
def cmpN (a b:Nat):Int:=if a<b then -1 else if a=b then 0 else 1
theorem wth_lt_of {xs ys:List Nat} (hx:okL xs) (hy:okL ys) (hl:xs.length=ys.length) {i:Nat} (hi:i<xs.length) (hd:xs.drop (i+1)=ys.drop (i+1)) (h:xs.getD i 0<ys.getD i 0):wth xs<wth ys:=by
 have h1 : ∀ (zs:List Nat),i<zs.length->wth zs=wth (zs.take i)+4294967296^i*(zs.getD i 0+4294967296*wth (zs.drop (i+1))):=by
  intro zs hz
  conv=>lhs;rw[<- List.take_append_drop i zs]
  rw[wth_append,List.length_take,Nat.min_eq_left (by omega),List.drop_eq_getElem_cons hz,wth_cons,List.getD_eq_getElem?_getD,List.getElem?_eq_getElem hz]
  rfl
 rw[h1 xs hi,h1 ys (by omega),hd]
 have h2:=wth_lt (okL_take hx i)
 rw[List.length_take,Nat.min_eq_left (by omega)]at h2
 have h3:4294967296^i*(xs.getD i 0+4294967296*wth (ys.drop (i+1))+1)<=4294967296^i*(ys.getD i 0+4294967296*wth (ys.drop (i+1))):=Nat.mul_le_mul_left _ (by omega)
 rw[Nat.mul_add _ _ 1,Nat.mul_one]at h3
 omega
theorem lim_length_lt {a b:Nat} (h:(lim a).length<(lim b).length):a<b:=by
 rcases Nat.lt_or_ge a b with h1|h1
 ·exact h1
 ·have:=trimL_length (okL_lim b) (okL_lim a) (trimL_lim b) (by rw[wth_lim,wth_lim];exact h1)
  omega
theorem nat_Cmp (xs ys:List Nat) (hx:okL xs) (hy:okL ys) (hl:xs.length<=1099511627776) (hm:ys.length<=1099511627776):Go.Ev.Fn CX 164 [natV xs,natV ys] (.int .i64 (cmpN (wth xs) (wth ys))):=by
 refine fni Tryz.f164 ?_;unfold Tryz.f164;simp only[Option.get!_some]
 have lx:=lim_length_le hx
 have ly:=lim_length_le hy
 repeat (first|simp only[go_sem]|simp (disch:=first|exact oa|fail) only[AX]|refine wki ?_|refine wqn ?_|refine vpx [] ?_)
 refine vf_of (nat_trim xs hx (by omega)) ?_;repeat (first|simp only[go_sem]|simp (disch:=first|exact oa|fail) only[AX]|refine wki ?_|refine wqn ?_|refine vpx [] ?_)
 refine vf_of (nat_trim ys hy (by omega)) ?_;repeat (first|simp only[go_sem]|simp (disch:=first|exact oa|fail) only[AX]|refine wki ?_|refine wqn ?_|refine vpx [] ?_)
 by_cases h1:(lim (wth xs)).length=(lim (wth ys)).length
 ·repeat (first|simp only[go_sem]|simp (disch:=first|exact oa|fail) only[AX]|refine wki ?_|refine wqn ?_)
  refine vp_loop_inv (fun s=>s.tmp 0 = .sv (natV (lim (wth xs)))/\s.tmp 1 = .sv (natV (lim (wth ys))) /\ ∃i:Nat,s.tmp 5 = .sv (.int .i64 ((i:Int)-1))/\i<=(lim (wth xs)).length/\(lim (wth xs)).drop i=(lim (wth ys)).drop i)
   (fun s=>match s.tmp 5 with | .sv (.int _ i)=>(i+1).toNat|_=>0) ⟨rfl,rfl,(lim (wth xs)).length,rfl,Nat.le_refl _,?_⟩ ?_
  ·rw[List.drop_length,h1,List.drop_length]
  rintro s ⟨g0,g1,i,g5,hi,hd⟩
  rcases Nat.eq_zero_or_pos i with rfl|hi0
  ·have e:cmpN (wth xs) (wth ys)=0:=by
    have:=congrArg wth hd
    rw[List.drop_zero,List.drop_zero,wth_lim,wth_lim]at this
    rw[this]
    simp[cmpN]
   rw[e]
   repeat (first|simp only[go_sem,g0,g1,g5]|simp (disch:=first|exact oa|fail) only[AX,g0,g1,g5]|refine wki ?_|refine wqn ?_|refine vpx [] ?_)
  ·repeat (first|simp only[go_sem,g0,g1,g5]|simp (disch:=first|exact oa|fail) only[AX,g0,g1,g5]|refine wki ?_|refine wqn ?_|refine vpx [] ?_)
   have hdr : ∀zs:List Nat,i<=zs.length->zs.drop (i-1)=zs.getD (i-1) 0::zs.drop i:=by
    intro zs hz
    rw[List.drop_eq_getElem_cons (show i-1<zs.length by omega),List.getD_eq_getElem?_getD,List.getElem?_eq_getElem (show i-1<zs.length by omega),show i-1+1=i by omega]
    rfl
   rcases Nat.lt_trichotomy ((lim (wth xs)).getD (i-1) 0) ((lim (wth ys)).getD (i-1) 0) with hc|hc|hc
   ·have:=wth_lt_of (okL_lim _) (okL_lim _) h1 (i:=i-1) (by omega) (by rw[show i-1+1=i by omega];exact hd) hc
    rw[wth_lim,wth_lim]at this
    have e:cmpN (wth xs) (wth ys) = -1:=by simp[cmpN,this]
    rw[e]
    repeat (first|simp only[go_sem,g0,g1,g5]|simp (disch:=first|exact oa|fail) only[AX,g0,g1,g5]|refine wki ?_|refine wqn ?_|refine vpx [] ?_)
   ·repeat (first|simp only[go_sem,g0,g1,g5]|simp (disch:=first|exact oa|fail) only[AX,g0,g1,g5]|refine wki ?_|refine wqn ?_|refine vpx [] ?_)
    refine⟨⟨i-1,?_,by omega,?_⟩,by omega⟩
    ·simp only[Int.natCast_sub hi0]
    ·rw[hdr _ hi,hdr _ (by omega),hc,hd]
   ·have:=wth_lt_of (okL_lim _) (okL_lim _) h1.symm (i:=i-1) (by omega) (by rw[show i-1+1=i by omega];exact hd.symm) hc
    rw[wth_lim,wth_lim]at this
    have e:cmpN (wth xs) (wth ys)=1:=by unfold cmpN;rw[if_neg (by omega),if_neg (by omega)]
    rw[e]
    repeat (first|simp only[go_sem,g0,g1,g5]|simp (disch:=first|exact oa|fail) only[AX,g0,g1,g5]|refine wki ?_|refine wqn ?_|refine vpx [] ?_)
 ·by_cases h2:(lim (wth xs)).length<(lim (wth ys)).length
  ·have:=lim_length_lt h2
   have e:cmpN (wth xs) (wth ys) = -1:=by simp[cmpN,this]
   rw[e]
   repeat (first|simp only[go_sem]|simp (disch:=first|exact oa|fail) only[AX]|refine wki ?_|refine wqn ?_|refine vpx [] ?_)
  ·have:=lim_length_lt (a:=wth ys) (b:=wth xs) (by omega)
   have e:cmpN (wth xs) (wth ys)=1:=by unfold cmpN;rw[if_neg (by omega),if_neg (by omega)]
   rw[e]
   repeat (first|simp only[go_sem]|simp (disch:=first|exact oa|fail) only[AX]|refine wki ?_|refine wqn ?_|refine vpx [] ?_)
end Go.Proofs.YtheclpmgipiejaaGreatDoor
namespace Go.Proofs.YtheclpmgipiejaaGreatDoor
open Go.Ev
theorem nat_Add (xs ys:List Nat) (hx:okL xs) (hy:okL ys) (hl:xs.length<=1073741824) (hm:ys.length<=1073741824):Go.Ev.Fn CX 137 [natV xs,natV ys] (natV (lim (wth xs+wth ys))):=by
 refine fni Tryz.f137 ?_;unfold Tryz.f137;simp only[Option.get!_some]
 have lx:=lim_length_le hx
 have ly:=lim_length_le hy
 repeat (first|simp only[go_sem]|simp (disch:=first|exact oa|fail) only[AX]|refine wki ?_|refine wqn ?_|refine vpx [] ?_)
 refine vf_of (nat_trim xs hx (by omega)) ?_;repeat (first|simp only[go_sem]|simp (disch:=first|exact oa|fail) only[AX]|refine wki ?_|refine wqn ?_|refine vpx [] ?_)
 refine vf_of (nat_trim ys hy (by omega)) ?_;repeat (first|simp only[go_sem]|simp (disch:=first|exact oa|fail) only[AX]|refine wki ?_|refine wqn ?_|refine vpx [] ?_)
 refine vc_cut (Mid:=fun s => ∃a b,s.tmp 0 = .sv (natV a)/\s.tmp 1 = .sv (natV b)/\okL a/\okL b/\b.length<=a.length/\a.length<=1073741824/\wth a+wth b=wth xs+wth ys) ?_ ?_
 ·by_cases h1:(lim (wth xs)).length<(lim (wth ys)).length
  ·repeat (first|simp only[go_sem]|simp (disch:=first|exact oa|fail) only[AX]|refine wki ?_|refine wqn ?_|refine vpx [] ?_)
   exact⟨_,_,rfl,rfl,okL_lim _,okL_lim _,by omega,by omega,by rw[wth_lim,wth_lim];omega⟩
  ·repeat (first|simp only[go_sem]|simp (disch:=first|exact oa|fail) only[AX]|refine wki ?_|refine wqn ?_|refine vpx [] ?_)
   exact⟨_,_,rfl,rfl,okL_lim _,okL_lim _,by omega,by omega,by rw[wth_lim,wth_lim]⟩
 rintro s ⟨a,b,g0,g1,ha,hb,hab,hla,hsum⟩
 repeat (first|simp only[go_sem,g0,g1]|simp (disch:=first|exact oa|fail) only[AX,g0,g1]|refine wki ?_|refine wqn ?_)
 generalize hg:s.gen 23=g
 refine vp_loop_inv (fun s'=>s'.tmp 0 = .sv (natV a)/\s'.tmp 1 = .sv (natV b)/\s'.tmp 5 = .ref 23 g 1 0 (a.length+1)/\s'.tmp 24 = .sv (natV a)/\s'.tmp 25 = .sv (.int .i64 a.length) /\
   ∃c:List Nat,∃i carry:Nat,s'.obj 23 g=some (c.map limb)/\s'.tmp 6 = .sv (.int .u64 carry)/\s'.tmp 26 = .sv (.int .i64 i)/\c.length=a.length+1/\okL c/\i<=a.length/\carry<=1 /\
    wth (c.take i)+4294967296^i*carry=wth (a.take i)+wth (b.take i))
  (fun s=>match s.tmp 26 with | .sv (.int _ i)=>a.length-i.toNat|_=>0) ?_ ?_
 ·refine⟨g0,g1,rfl,rfl,rfl,List.replicate (a.length+1) 0,0,0,?_,rfl,rfl,List.length_replicate ..,okL_replicate _,by omega,by omega,rfl⟩
  simp[St.put,St.new,hg]
 rintro s' ⟨i0,i1,i5,i24,i25,c,i,carry,iO,i6,i26,hc,hok,hi,hcar,hw⟩
 by_cases hend:i=a.length
 ·subst hend
  repeat (first|simp only[go_sem,i0,i1,i5,i24,i25,iO,i6,i26]|simp (disch:=first|exact oa|fail) only[AX,i0,i1,i5,i24,i25,iO,i6,i26]|refine wki ?_|refine wqn ?_|refine vpx [] ?_)
  refine vf_of (fn_natV (nat_trim (c.set a.length carry) (okL_set hok _ _ (by omega)) (by rw[List.length_set];omega)) (by rw[List.length_set];omega)) ?_;repeat (first|simp only[go_sem]|simp (disch:=first|exact oa|fail) only[AX]|refine wki ?_|refine wqn ?_|refine vpx [] ?_)
  have e:wth (c.set a.length carry)=wth xs+wth ys:=by
   rw[<- List.take_of_length_le (l:=c.set a.length carry) (i:=a.length+1) (by rw[List.length_set];omega),wth_set_take (by omega),hw,List.take_of_length_le (Nat.le_refl _),List.take_of_length_le hab,hsum]
  rw[e]
 ·have h1:=getD_lt ha i
  have h2:=getD_lt hb i
  have key : ∀x:Nat,x=carry+a.getD i 0+b.getD i 0->wth ((c.set i (x%4294967296)).take (i+1))+4294967296^(i+1)*(x/4294967296)=wth (a.take (i+1))+wth (b.take (i+1)):=by
   intro x hx
   rw[wth_set_take (by omega),wth_take_succ,wth_take_succ]
   have e1:4294967296^i*(x%4294967296)+4294967296^(i+1)*(x/4294967296)=4294967296^i*x:=by
    rw[Nat.pow_succ,Nat.mul_assoc,<- Nat.mul_add,Nat.mod_add_div]
   have e2:4294967296^i*x=4294967296^i*carry+4294967296^i*a.getD i 0+4294967296^i*b.getD i 0:=by
    rw[hx,Nat.mul_add,Nat.mul_add]
   omega
  by_cases hib:i<b.length
  ·repeat (first|simp only[go_sem,i0,i1,i5,i24,i25,iO,i6,i26]|simp (disch:=first|exact oa|fail) only[AX,i0,i1,i5,i24,i25,iO,i6,i26]|refine wki ?_|refine wqn ?_|refine vpx [] ?_)
   exact⟨⟨c.set i ((carry+a.getD i 0+b.getD i 0)%4294967296),i+1,(carry+a.getD i 0+b.getD i 0)/4294967296,rfl,rfl,rfl,by rw[List.length_set];exact hc,okL_set hok _ _ (by omega),by omega,by omega,key _ rfl⟩,by omega⟩
  ·have e0:b.getD i 0=0:=by rw[List.getD_eq_getElem?_getD,List.getElem?_eq_none (by omega)];rfl
   repeat (first|simp only[go_sem,i0,i1,i5,i24,i25,iO,i6,i26]|simp (disch:=first|exact oa|fail) only[AX,i0,i1,i5,i24,i25,iO,i6,i26]|refine wki ?_|refine wqn ?_|refine vpx [] ?_)
   exact⟨⟨c.set i ((carry+a.getD i 0)%4294967296),i+1,(carry+a.getD i 0)/4294967296,rfl,rfl,rfl,by rw[List.length_set];exact hc,okL_set hok _ _ (by omega),by omega,by omega,key _ (by omega)⟩,by omega⟩
end Go.Proofs.YtheclpmgipiejaaGreatDoor
namespace Go.Proofs.YtheclpmgipiejaaGreatDoor
open Go.Ev
theorem bits_Add32 (x y c:Nat) (hx:x<4294967296) (hy:y<4294967296) (hc:c<4294967296) :
  Go.Ev.Fn CX 323 [limb x,limb y,limb c] (.tup [limb ((x+y+c)%4294967296),limb ((x+y+c)/4294967296)]):=by
 refine fni Tryz.f323 ?_;unfold Tryz.f323;simp only[Option.get!_some]
 repeat (first|simp only[go_sem]|simp (disch:=first|exact oa|fail) only[AX]|refine wki ?_|refine wqn ?_|refine vpx [] ?_)
theorem bits_Sub32 (x y b:Nat) (hx:x<4294967296) (hy:y<4294967296) (hb:b<=1) :
  Go.Ev.Fn CX 208 [limb x,limb y,limb b] (.tup [limb (((x+(4294967296-y))%4294967296+(4294967296-b))%4294967296),limb (if x<y+b then 1 else 0)]):=by
 refine fni Tryz.f208 ?_;unfold Tryz.f208;simp only[Option.get!_some]
 have hd : ∃d,d=((x+(4294967296-y))%4294967296+(4294967296-b))%4294967296:=⟨_,rfl⟩
 obtain⟨d,hd⟩:=hd
 rw[<- hd,<- sub32_bit hx hy hb hd]
 have hd':d<4294967296:=by omega
 have h0:4294967295 ^^^ x<4294967296:=Nat.xor_lt_two_pow (n:=32) (by decide) hx
 have h1:(4294967295 ^^^ x) &&& y<4294967296:=Nat.lt_of_le_of_lt Nat.and_le_right hy
 have h2:x ^^^ y<4294967296:=Nat.xor_lt_two_pow (n:=32) hx hy
 have h3:4294967295 ^^^ (x ^^^ y)<4294967296:=Nat.xor_lt_two_pow (n:=32) (by decide) h2
 have h4:(4294967295 ^^^ (x ^^^ y)) &&& d<4294967296:=Nat.lt_of_le_of_lt Nat.and_le_right hd'
 repeat (first|simp only[go_sem,u32_sub,<- hd]|simp (disch:=first|exact oa|fail) only[AX,u32_sub,<- hd]|refine wki ?_|refine wqn ?_|refine vpx [] ?_)
theorem bits_Div32 (hi lo y:Nat) (h:hi<y) (hy:y<4294967296) (hlo:lo<4294967296) :
  Go.Ev.Fn CX 265 [limb hi,limb lo,limb y] (.tup [limb ((hi*4294967296+lo)/y),limb ((hi*4294967296+lo)%y)]):=by
 refine fni Tryz.f265 ?_;unfold Tryz.f265;simp only[Option.get!_some]
 have hq:(hi*4294967296+lo)/y<4294967296:=by
  rw[Nat.div_lt_iff_lt_mul (by omega)]
  have:(hi+1)*4294967296<=y*4294967296:=Nat.mul_le_mul_right _ h
  omega
 have hr:(hi*4294967296+lo)%y<4294967296:=Nat.lt_trans (Nat.mod_lt _ (by omega)) hy
 have hX : ∃X,hi*4294967296+lo=X:=⟨_,rfl⟩
 obtain⟨X,hX⟩:=hX
 rw[hX]at hq hr ⊢
 generalize hQ:X/y=Q at *
 generalize hR:X%y=R at *
 repeat (first|simp only[go_sem,hX,hQ,hR]|simp (disch:=first|exact oa|fail) only[AX,hX,hQ,hR]|refine wki ?_|refine wqn ?_|refine vpx [] ?_)
end Go.Proofs.YtheclpmgipiejaaGreatDoor
namespace Go.Proofs.YtheclpmgipiejaaGreatDoor
open Go.Ev
theorem nat_Sub (xs ys:List Nat) (hx:okL xs) (hy:okL ys) (hl:xs.length<=1073741824) (hm:ys.length<=1073741824) :
  Go.Ev.Fn CX 147 [natV xs,natV ys] (if wth xs<wth ys then .tup [natV [],.bool false] else .tup [natV (lim (wth xs-wth ys)),.bool true]):=by
 refine fni Tryz.f147 ?_;unfold Tryz.f147;simp only[Option.get!_some]
 have lx:=lim_length_le hx
 have ly:=lim_length_le hy
 repeat (first|simp only[go_sem]|simp (disch:=first|exact oa|fail) only[AX]|refine wki ?_|refine wqn ?_|refine vpx [] ?_)
 refine vf_of (nat_Cmp xs ys hx hy (by omega) (by omega)) ?_;repeat (first|simp only[go_sem]|simp (disch:=first|exact oa|fail) only[AX]|refine wki ?_|refine wqn ?_|refine vpx [] ?_)
 by_cases hlt:wth xs<wth ys
 ·rw[if_pos hlt]
  have e:cmpN (wth xs) (wth ys) = -1:=by simp[cmpN,hlt]
  rw[e]
  repeat (first|simp only[go_sem]|simp (disch:=first|exact oa|fail) only[AX]|refine wki ?_|refine wqn ?_|refine vpx [] ?_)
  rfl
 ·rw[if_neg hlt]
  have e:decide (cmpN (wth xs) (wth ys)<0)=false:=by
   unfold cmpN;rw[if_neg hlt];split<;>rfl
  repeat (first|simp only[go_sem,e]|simp (disch:=first|exact oa|fail) only[AX,e]|refine wki ?_|refine wqn ?_|refine vpx [] ?_)
  refine vf_of (nat_trim xs hx (by omega)) ?_;repeat (first|simp only[go_sem]|simp (disch:=first|exact oa|fail) only[AX]|refine wki ?_|refine wqn ?_|refine vpx [] ?_)
  refine vf_of (nat_trim ys hy (by omega)) ?_;repeat (first|simp only[go_sem]|simp (disch:=first|exact oa|fail) only[AX]|refine wki ?_|refine wqn ?_|refine vpx [] ?_)
  have hab:(lim (wth ys)).length<=(lim (wth xs)).length:=trimL_length (okL_lim _) (okL_lim _) (trimL_lim _) (by rw[wth_lim,wth_lim];omega)
  have ha:=okL_lim (wth xs)
  have hb:=okL_lim (wth ys)
  have va:=wth_lim (wth xs)
  have vb:=wth_lim (wth ys)
  generalize lim (wth xs)=a at *
  generalize lim (wth ys)=b at *
  refine vp_loop_inv (fun s'=>s'.tmp 0 = .sv (natV a)/\s'.tmp 1 = .sv (natV b)/\s'.tmp 6 = .ref 21 0 1 0 a.length/\s'.tmp 22 = .sv (natV a)/\s'.tmp 23 = .sv (.int .i64 a.length) /\
    ∃c:List Nat,∃i w:Nat,s'.obj 21 0=some (c.map limb)/\s'.tmp 7 = .sv (.int .u32 w)/\s'.tmp 24 = .sv (.int .i64 i)/\c.length=a.length/\okL c/\i<=a.length/\w<=1 /\
     wth (c.take i)+wth (b.take i)=wth (a.take i)+4294967296^i*w)
   (fun s=>match s.tmp 24 with | .sv (.int _ i)=>a.length-i.toNat|_=>0) ?_ ?_
  ·refine⟨rfl,rfl,rfl,rfl,rfl,List.replicate a.length 0,0,0,rfl,rfl,rfl,List.length_replicate ..,okL_replicate _,by omega,by omega,rfl⟩
  rintro s' ⟨i0,i1,i6,i22,i23,c,i,w,iO,i7,i24,hc,hok,hi,hw,hv⟩
  by_cases hend:i=a.length
  ·subst hend
   repeat (first|simp only[go_sem,i0,i1,i6,i22,i23,iO,i7,i24]|simp (disch:=first|exact oa|fail) only[AX,i0,i1,i6,i22,i23,iO,i7,i24]|refine wki ?_|refine wqn ?_|refine vpx [] ?_)
   have e:wth c=wth xs-wth ys:=by
    rw[List.take_of_length_le (by omega),List.take_of_length_le hab,List.take_of_length_le (Nat.le_refl _),va,vb]at hv
    have h0:=wth_lt hok
    rw[hc]at h0
    rcases Nat.eq_zero_or_pos w with rfl|hw0
    ·omega
    ·have:w=1:=by omega
     subst this
     have:=wth_lt ha
     omega
   refine vf_of (fn_natV (nat_trim c hok (by omega)) hc) ?_;repeat (first|simp only[go_sem]|simp (disch:=first|exact oa|fail) only[AX]|refine wki ?_|refine wqn ?_|refine vpx [] ?_)
   rw[e]
  ·have h1:=getD_lt ha i
   have h2:=getD_lt hb i
   have key : ∀x y v w':Nat,x=a.getD i 0->y=b.getD i 0->v+y+w=x+4294967296*w'->wth ((c.set i v).take (i+1))+wth (b.take (i+1))=wth (a.take (i+1))+4294967296^(i+1)*w':=by
    intro x y v w' hx' hy' he
    rw[wth_set_take (by omega),wth_take_succ,wth_take_succ,<- hx',<- hy',Nat.pow_succ,Nat.mul_assoc]
    have e1:4294967296^i*(v+y+w)=4294967296^i*(x+4294967296*w'):=by rw[he]
    rw[Nat.mul_add,Nat.mul_add,Nat.mul_add]at e1
    omega
   by_cases hib:i<b.length
   ·repeat (first|simp only[go_sem,i0,i1,i6,i22,i23,iO,i7,i24]|simp (disch:=first|exact oa|fail) only[AX,i0,i1,i6,i22,i23,iO,i7,i24]|refine wki ?_|refine wqn ?_|refine vpx [] ?_)
    refine vf_of (bits_Sub32 (a.getD i 0) (b.getD i 0) w h1 h2 hw) ?_;repeat (first|simp only[go_sem,i0,i1,i6,i22,i23,iO,i7,i24]|simp (disch:=first|exact oa|fail) only[AX,i0,i1,i6,i22,i23,iO,i7,i24]|refine wki ?_|refine wqn ?_|refine vpx [] ?_)
    refine⟨⟨c.set i (((a.getD i 0+(4294967296-b.getD i 0))%4294967296+(4294967296-w))%4294967296),i+1,if a.getD i 0<b.getD i 0+w then 1 else 0,rfl,rfl,rfl,by rw[List.length_set];exact hc,okL_set hok _ _ (by omega),by omega,by split<;>omega,key _ _ _ _ rfl rfl ?_⟩,by omega⟩
    split<;>omega
   ·have e0:b.getD i 0=0:=by rw[List.getD_eq_getElem?_getD,List.getElem?_eq_none (by omega)];rfl
    repeat (first|simp only[go_sem,i0,i1,i6,i22,i23,iO,i7,i24]|simp (disch:=first|exact oa|fail) only[AX,i0,i1,i6,i22,i23,iO,i7,i24]|refine wki ?_|refine wqn ?_|refine vpx [] ?_)
    refine vf_of (bits_Sub32 (a.getD i 0) 0 w h1 (by omega) hw) ?_;repeat (first|simp only[go_sem,i0,i1,i6,i22,i23,iO,i7,i24]|simp (disch:=first|exact oa|fail) only[AX,i0,i1,i6,i22,i23,iO,i7,i24]|refine wki ?_|refine wqn ?_|refine vpx [] ?_)
    refine⟨⟨c.set i (((a.getD i 0+4294967296)%4294967296+(4294967296-w))%4294967296),i+1,if a.getD i 0<w then 1 else 0,rfl,rfl,rfl,by rw[List.length_set];exact hc,okL_set hok _ _ (by omega),by omega,by split<;>omega,key _ _ _ _ rfl e0.symm ?_⟩,by omega⟩
    split<;>omega
end Go.Proofs.YtheclpmgipiejaaGreatDoor
namespace Go.Proofs.YtheclpmgipiejaaGreatDoor
open Go.Ev
theorem getD_set_ne {xs:List Nat} {i j v:Nat} (h:j≠i):(xs.set i v).getD j 0=xs.getD j 0:=by
 rw[List.getD_eq_getElem?_getD,List.getD_eq_getElem?_getD,List.getElem?_set_ne (fun e=>h e.symm)]
theorem limb_mul {v w:Nat} (hv:v<4294967296) (hw:w<4294967296):v*w<=18446744065119617025:=
 Nat.le_trans (Nat.mul_le_mul (show v<=4294967295 by omega) (show w<=4294967295 by omega)) (by decide)
theorem nat_Mul (xs ys:List Nat) (hx:okL xs) (hy:okL ys) (hl:xs.length<=1073741824) (hm:ys.length<=1073741824) :
  Go.Ev.Fn CX 94 [natV xs,natV ys] (natV (lim (wth xs*wth ys))):=by
 refine fni Tryz.f94 ?_;unfold Tryz.f94;simp only[Option.get!_some]
 have lx:=lim_length_le hx
 have ly:=lim_length_le hy
 repeat (first|simp only[go_sem]|simp (disch:=first|exact oa|fail) only[AX]|refine wki ?_|refine wqn ?_|refine vpx [] ?_)
 refine vf_of (nat_trim xs hx (by omega)) ?_;repeat (first|simp only[go_sem]|simp (disch:=first|exact oa|fail) only[AX]|refine wki ?_|refine wqn ?_|refine vpx [] ?_)
 refine vf_of (nat_trim ys hy (by omega)) ?_;repeat (first|simp only[go_sem]|simp (disch:=first|exact oa|fail) only[AX]|refine wki ?_|refine wqn ?_|refine vpx [] ?_)
 have ha:=okL_lim (wth xs)
 have hb:=okL_lim (wth ys)
 have va:=wth_lim (wth xs)
 have vb:=wth_lim (wth ys)
 generalize lim (wth xs)=a at *
 generalize lim (wth ys)=b at *
 refine vp_loop_inv (fun s'=>s'.tmp 0 = .sv (natV a)/\s'.tmp 1 = .sv (natV b)/\s'.tmp 5 = .ref 20 0 1 0 (a.length+b.length)/\s'.tmp 21 = .sv (natV a)/\s'.tmp 22 = .sv (.int .i64 a.length) /\
   ∃c:List Nat,∃i:Nat,s'.obj 20 0=some (c.map limb)/\s'.tmp 23 = .sv (.int .i64 i)/\c.length=a.length+b.length/\okL c/\i<=a.length /\
    wth (c.take (i+b.length))=wth (a.take i)*wth b)
  (fun s=>match s.tmp 23 with | .sv (.int _ i)=>a.length-i.toNat|_=>0) ?_ ?_
 ·refine⟨rfl,rfl,rfl,rfl,rfl,List.replicate (a.length+b.length) 0,0,rfl,rfl,List.length_replicate ..,okL_replicate _,by omega,?_⟩
  rw[List.take_replicate,wth_replicate];simp[wth]
 rintro s' ⟨i0,i1,i5,i21,i22,c0,i,iO,i23,hc0,hok0,hi,hv⟩
 by_cases hend:i=a.length
 ·subst hend
  repeat (first|simp only[go_sem,i0,i1,i5,i21,i22,iO,i23]|simp (disch:=first|exact oa|fail) only[AX,i0,i1,i5,i21,i22,iO,i23]|refine wki ?_|refine wqn ?_|refine vpx [] ?_)
  refine vf_of (fn_natV (nat_trim c0 hok0 (by omega)) hc0) ?_;repeat (first|simp only[go_sem]|simp (disch:=first|exact oa|fail) only[AX]|refine wki ?_|refine wqn ?_|refine vpx [] ?_)
  have e:wth c0=wth xs*wth ys:=by
   rw[List.take_of_length_le (by omega),List.take_of_length_le (Nat.le_refl _),va,vb]at hv
   exact hv
  rw[e]
 ·have h1:=getD_lt ha i
  repeat (first|simp only[go_sem,i0,i1,i5,i21,i22,iO,i23]|simp (disch:=first|exact oa|fail) only[AX,i0,i1,i5,i21,i22,iO,i23]|refine wki ?_|refine wqn ?_|refine vpx [] ?_)
  generalize hvv:a.getD i 0=v at *
  refine vp_loop_inv (fun s'=>s'.tmp 0 = .sv (natV a)/\s'.tmp 1 = .sv (natV b)/\s'.tmp 5 = .ref 20 0 1 0 (a.length+b.length)/\s'.tmp 21 = .sv (natV a)/\s'.tmp 22 = .sv (.int .i64 a.length)/\s'.tmp 23 = .sv (.int .i64 i) /\
    s'.tmp 6 = .sv (.int .i64 i)/\s'.tmp 7 = .sv (.int .u32 v)/\s'.tmp 28 = .sv (natV b)/\s'.tmp 29 = .sv (.int .i64 b.length) /\
    ∃c:List Nat,∃k carry:Nat,s'.obj 20 0=some (c.map limb)/\s'.tmp 30 = .sv (.int .i64 k)/\s'.tmp 8 = .sv (.int .u64 carry)/\c.length=a.length+b.length/\okL c/\k<=b.length/\carry<4294967296 /\
     (∀j,i+k<=j->c.getD j 0=c0.getD j 0)/\wth (c.take (i+k))+4294967296^(i+k)*carry=wth (c0.take (i+k))+4294967296^i*(v*wth (b.take k)))
   (fun s=>match s.tmp 30 with | .sv (.int _ i)=>b.length-i.toNat|_=>0) ?_ ?_
  ·refine⟨i0,i1,i5,i21,i22,i23,rfl,rfl,rfl,rfl,c0,0,0,iO,rfl,rfl,hc0,hok0,by omega,by omega,fun _ _=>rfl,?_⟩
   simp[wth]
  rintro s2 ⟨j0,j1,j5,j21,j22,j23,j6,j7,j28,j29,c,k,carry,jO,j30,j8,hc,hok,hk,hcar,hsame,hw⟩
  by_cases hend2:k=b.length
  ·subst hend2
   repeat (first|simp only[go_sem,j0,j1,j5,j21,j22,j23,j6,j7,j28,j29,jO,j30,j8]|simp (disch:=first|exact oa|fail) only[AX,j0,j1,j5,j21,j22,j23,j6,j7,j28,j29,jO,j30,j8]|refine wki ?_|refine wqn ?_|refine vpx [] ?_)
   refine⟨⟨c.set (i+b.length) carry,i+1,rfl,rfl,by rw[List.length_set];exact hc,okL_set hok _ _ hcar,by omega,?_⟩,by omega⟩
   rw[show i+1+b.length=i+b.length+1 by omega,wth_set_take (by omega),hw,hv,wth_take_succ,hvv,List.take_of_length_le (Nat.le_refl _)]
   rw[Nat.add_mul,Nat.mul_assoc]
  ·have h2:=getD_lt hb k
   have h3:=getD_lt hok (i+k)
   have h4:=limb_mul h1 h2
   have hs:=hsame (i+k) (Nat.le_refl _)
   generalize hww:b.getD k 0=w at *
   generalize hu:c.getD (i+k) 0=u at *
   generalize hp:v*w=p at *
   repeat (first|simp only[go_sem,j0,j1,j5,j21,j22,j23,j6,j7,j28,j29,jO,j30,j8,hww,hu,hp]|simp (disch:=first|exact oa|fail) only[AX,j0,j1,j5,j21,j22,j23,j6,j7,j28,j29,jO,j30,j8,hww,hu,hp]|refine wki ?_|refine wqn ?_|refine vpx [] ?_)
   refine⟨⟨c.set (i+k) ((carry+(p+u))%4294967296),k+1,(carry+(p+u))/4294967296,rfl,rfl,rfl,by rw[List.length_set];exact hc,okL_set hok _ _ (by omega),by omega,by omega,fun j hj=>(getD_set_ne (by omega)).trans (hsame j (by omega)),?_⟩,by omega⟩
   rw[show i+(k+1)=i+k+1 by omega,wth_set_take (by omega),wth_take_succ c0,<- hs,wth_take_succ b,hww]
   generalize hx:carry+(p+u)=x
   have e1:4294967296^(i+k)*(x%4294967296)+4294967296^(i+k+1)*(x/4294967296)=4294967296^(i+k)*x:=by
    rw[Nat.pow_succ,Nat.mul_assoc,<- Nat.mul_add,Nat.mod_add_div]
   have e2:4294967296^(i+k)*x=4294967296^(i+k)*carry+(4294967296^(i+k)*p+4294967296^(i+k)*u):=by
    rw[<- hx,Nat.mul_add,Nat.mul_add]
   have e3:4294967296^i*(v*(wth (b.take k)+4294967296^k*w))=4294967296^i*(v*wth (b.take k))+4294967296^(i+k)*p:=by
    rw[Nat.mul_add,Nat.mul_add,<- hp,Nat.pow_add,Nat.mul_left_comm v,<- Nat.mul_assoc (4294967296^i) (4294967296^k)]
   rw[e3]
   omega
end Go.Proofs.YtheclpmgipiejaaGreatDoor
namespace Go.Proofs.YtheclpmgipiejaaGreatDoor
open Go.Ev
theorem wth_drop {xs:List Nat} {i:Nat} (h:i<xs.length):wth (xs.drop i)=xs.getD i 0+4294967296*wth (xs.drop (i+1)):=by
 rw[List.drop_eq_getElem_cons h,wth_cons,List.getD_eq_getElem?_getD,List.getElem?_eq_getElem h]
 rfl
theorem wth_set_drop {xs:List Nat} {i:Nat} (h:i<xs.length) (v:Nat):wth ((xs.set i v).drop i)=v+4294967296*wth (xs.drop (i+1)):=by
 rw[wth_drop (by rw[List.length_set];exact h),List.drop_set_of_lt (by omega)]
 simp[List.getD_eq_getElem?_getD,h]
theorem nat_small (xs:List Nat) (b:Nat) (hx:okL xs) (hl:xs.length<=1073741824) (hb0:0<b) (hb:b<4294967296) :
  Go.Ev.Fn CX 197 [natV xs,limb b] (.tup [natV (lim (wth xs/b)),limb (wth xs%b)]):=by
 refine fni Tryz.f197 ?_;unfold Tryz.f197;simp only[Option.get!_some]
 repeat (first|simp only[go_sem]|simp (disch:=first|exact oa|fail) only[AX]|refine wki ?_|refine wqn ?_)
 refine vp_loop_inv (fun s'=>s'.tmp 0 = .sv (natV xs)/\s'.tmp 1 = .sv (limb b)/\s'.tmp 6 = .ref 11 0 1 0 xs.length /\
   ∃q:List Nat,∃i rest:Nat,s'.obj 11 0=some (q.map limb)/\s'.tmp 8 = .sv (.int .i64 ((i:Int)-1))/\s'.tmp 7 = .sv (limb rest)/\q.length=xs.length/\okL q/\i<=xs.length/\rest<b /\
    wth (xs.drop i)=b*wth (q.drop i)+rest)
  (fun s=>match s.tmp 8 with | .sv (.int _ i)=>(i+1).toNat|_=>0) ?_ ?_
 ·refine⟨rfl,rfl,rfl,List.replicate xs.length 0,xs.length,0,rfl,rfl,rfl,List.length_replicate ..,okL_replicate _,by omega,hb0,?_⟩
  rw[List.drop_length,List.drop_of_length_le (by simp)]
  simp[wth]
 rintro s' ⟨i0,i1,i6,q,i,rest,iO,i8,i7,hq,hok,hi,hrest,hv⟩
 rcases Nat.eq_zero_or_pos i with rfl|hi0
 ·repeat (first|simp only[go_sem,i0,i1,i6,iO,i8,i7]|simp (disch:=first|exact oa|fail) only[AX,i0,i1,i6,iO,i8,i7]|refine wki ?_|refine wqn ?_|refine vpx [] ?_)
  rw[List.drop_zero,List.drop_zero]at hv
  have e1:wth xs/b=wth q:=by
   rw[hv,Nat.mul_add_div hb0,Nat.div_eq_of_lt hrest,Nat.add_zero]
  have e2:wth xs%b=rest:=by
   rw[hv,Nat.mul_add_mod,Nat.mod_eq_of_lt hrest]
  refine vf_of (fn_natV (nat_trim q hok (by omega)) hq) ?_;repeat (first|simp only[go_sem,i0,i1,i6,iO,i8,i7]|simp (disch:=first|exact oa|fail) only[AX,i0,i1,i6,iO,i8,i7]|refine wki ?_|refine wqn ?_|refine vpx [] ?_)
  rw[e1,e2]
  exact⟨rfl,rfl⟩
 ·have h1:=getD_lt hx (i-1)
  have h5:(((i-1:Nat):Int))=(i:Int)-1:=by omega
  repeat (first|simp only[go_sem,i0,i1,i6,iO,i8,i7]|simp (disch:=first|exact oa|fail) only[AX,i0,i1,i6,iO,i8,i7]|refine wki ?_|refine wqn ?_|refine vpx [] ?_)
  have hq0:(rest*4294967296+xs.getD (i-1) 0)/b<4294967296:=by
   rw[Nat.div_lt_iff_lt_mul hb0]
   have:(rest+1)*4294967296<=b*4294967296:=Nat.mul_le_mul_right _ hrest
   omega
  have hr0:=Nat.mod_lt (rest*4294967296+xs.getD (i-1) 0) hb0
  refine vf_of (bits_Div32 rest (xs.getD (i-1) 0) b hrest hb h1) ?_;repeat (first|simp only[go_sem,i0,i1,i6,iO,i8,i7]|simp (disch:=first|exact oa|fail) only[AX,i0,i1,i6,iO,i8,i7]|refine wki ?_|refine wqn ?_|refine vpx [] ?_)
  refine⟨⟨q.set (i-1) ((rest*4294967296+xs.getD (i-1) 0)/b),i-1,(rest*4294967296+xs.getD (i-1) 0)%b,rfl,rfl,rfl,by rw[List.length_set];exact hq,okL_set hok _ _ hq0,by omega,hr0,?_⟩,by omega⟩
  rw[wth_set_drop (by omega),wth_drop (by omega),show i-1+1=i by omega,hv]
  have e1:=Nat.div_add_mod (rest*4294967296+xs.getD (i-1) 0) b
  generalize (rest*4294967296+xs.getD (i-1) 0)/b=Q at *
  generalize (rest*4294967296+xs.getD (i-1) 0)%b=R at *
  rw[Nat.mul_add b,<- Nat.mul_assoc b,Nat.mul_comm b 4294967296,Nat.mul_assoc]
  omega
end Go.Proofs.YtheclpmgipiejaaGreatDoor
