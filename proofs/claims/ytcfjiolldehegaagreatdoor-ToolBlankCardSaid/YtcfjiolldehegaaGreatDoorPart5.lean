/- Part 5 of the proof: the evaluator, contracts of functions and their plain laws (joined by program). No condition. -/
import Derived.Test.YtcfjiolldehegaaGreatDoorPart4
import Derived.KernelRfl
import Derived.Test.YtcfjiolldehegaaGreatDoorProg
import Derived.Lib.SliceRun
import Derived.Lib.Bytealg
import Derived.Lib.Join
import Derived.Lib.SlTrimSet
import Derived.Lib.Atoi
import Derived.Laws.Externs
import Derived.Lib.IndexMore
import Derived.Lib.FieldsP
import Derived.WalkSmall
import Derived.Lib.Overlaps
import Derived.Shelf.Strings.OnBuilder
import Derived.Shelf.Strings.SlTrimAscii
import Derived.Shelf.Strconv.Atoi
import Derived.Shelf.Strings.Cut
import Derived.Shelf.Strings.FieldsFuncAny
import Derived.Shelf.GgClosure.GivesRunes
set_option linter.unusedVariables false
set_option linter.unusedSimpArgs false
set_option maxRecDepth 100000
namespace Go.Ev
section
variable {C:Cx} {ops:Array Oper} {st:St} {Q:St->Prop} {R:Ex->St->Prop}
def WSC (C:Cx) (ops:Array Oper) (L:List Nat) (st:St) (Q:St->Prop):Prop:=
 ∃n s,execC C.P (callN C.P C.X C.mu C.good n) C.mu ops L st=some s/\Q s
def ats1:Option Oper->List Oper->List Oper
 |some o,l=>o::l
 |none,l=>l
def ats (os:List Oper):List Nat->List Oper
 | []=>[]
 |i::r=>ats1 os[i]? (ats os r)
def SameT (a b c:TV):Prop:=a=b/\b=c/\sameTV a a=true
def CKL (C:Cx) (ops:Array Oper) (s1 s2:St) (K:St->Prop):List Nat->Prop
 | []=>K s2
 |k::r=>match ops.toList[k]? with
  |some o=>match o.dst with
   |some t=>WO C false ops [o] s2 (fun s=>SameT (s.tmp t) (s2.tmp t) (s1.tmp t)/\CKL C ops s1 s2 K r)
   |none=>False
  |none=>False
def CKQ (C:Cx) (ops:Array Oper) (s1 s2:St) (K:St->Prop) (t:Nat) (r:List Nat) (s:St):Prop:=SameT (s.tmp t) (s2.tmp t) (s1.tmp t)/\CKL C ops s1 s2 K r
def CK1 (C:Cx) (ops:Array Oper) (s1 s2:St) (K:St->Prop) (o:Option Oper) (r:List Nat):Prop:=match o with
 |some o=>match o.dst with
  |some t=>WO C false ops [o] s2 (CKQ C ops s1 s2 K t r)
  |none=>False
 |none=>False
abbrev Seg:=List Nat×Option (Nat×List Nat)
def WX (C:Cx) (ops:Array Oper) (l:List Oper) (st:St) (Q:St->Prop):Prop:=WO C false ops l st Q
def WSS (C:Cx) (ops:Array Oper) (Q:St->Prop):List Seg->St->Prop
 | [],_=>False
 |(is,none)::_,st=>WX C ops (ats ops.toList is) st Q
 |(is,some (i,ck))::S,st=>WX C ops (ats ops.toList is) st fun s1=>WX C ops (ats ops.toList [i]) s1 fun s2=>CKL C ops s1 s2 (WSS C ops Q S) ck
def WSB (C:Cx) (ops:Array Oper) (Q:St->Prop) (ck:List Nat) (S:List Seg) (s1 s2:St):Prop:=CKL C ops s1 s2 (WSS C ops Q S) ck
def WSA (C:Cx) (ops:Array Oper) (Q:St->Prop) (i:Nat) (ck:List Nat) (S:List Seg) (s1:St):Prop:=WX C ops (ats ops.toList [i]) s1 (WSB C ops Q ck S s1)
def segsI (ops:Array Oper):List Nat->List Nat->List Seg
 | [],acc=>[(acc.reverse,none)]
 |i::r,acc=>match ops[i]? with
  |some o=>if heavyO ops o then (acc.reverse,some (i,(looseI ops i).filter fun k => !r.contains k))::segsI ops r [] else segsI ops r (i::acc)
  |none=>[]
theorem opl {i:Nat}:ops.toList[i]?=ops[i]?:=by simp
theorem wo_consO {o:Oper} {l:List Oper} (h:WO C false ops (o::l) st Q) : ∃n s1,stepO C.P (callN C.P C.X C.mu C.good n) C.mu false ops o st=some s1/\WO C false ops l s1 Q:=by
 obtain⟨n,s,h,q⟩:=h
 unfold execOps at h
 split at h
 ·rename_i s1 h1
  exact⟨n,s1,h1,n,s,h,q⟩
 ·cases h
theorem wo_nil (h:WO C false ops [] st Q):Q st:=by rw[vo_nil]at h;exact h
theorem stepC_plain {P:Program} {call:Callf} {mu:FuncId->Bool} {o:Oper} (h:copyR ops=false):stepC P call mu ops o st=stepO P call mu false ops o st:=by
 unfold stepC
 rw[h,Bool.false_and,if_neg (by simp)]
theorem wo_cons (hcr:copyR ops=false) {o:Oper} {l:List Oper} (h:WO C false ops (o::l) st Q) : ∃n s1,stepC C.P (callN C.P C.X C.mu C.good n) C.mu ops o st=some s1/\WO C false ops l s1 Q:=by
 obtain⟨n,s1,h1,h2⟩:=wo_consO h
 exact⟨n,s1,by rw[stepC_plain hcr];exact h1,h2⟩
theorem wsc_of {i:Nat} {o:Oper} {r:List Nat} {n:Nat} {s1:St} (ho:ops[i]?=some o) (h1:stepC C.P (callN C.P C.X C.mu C.good n) C.mu ops o st=some s1) (hk:ckAll C.P ops r st s1 (looseI ops i)=true) (h:WSC C ops r s1 Q):WSC C ops (i::r) st Q:=by
 obtain⟨m,s,h2,q⟩:=h
 exact⟨max n m,s,execC_of ho (stepC_mono (callN_mono C.X (Nat.le_max_left n m)) h1) hk (execC_mono (callN_mono C.X (Nat.le_max_right n m)) h2),q⟩
theorem wsc_light (hcr:copyR ops=false) : ∀ {is r:List Nat} {st:St},(∀i∈is,∃o,ops[i]?=some o/\heavyO ops o=false)->WO C false ops (ats ops.toList is) st (fun s=>WSC C ops r s Q)->WSC C ops (is++r) st Q
 | [],r,st,_,h=>wo_nil h
 |i::is,r,st,hl,h=>by
  obtain⟨o,ho,hh⟩:=hl i List.mem_cons_self
  unfold ats at h
  rw[opl,ho]at h
  obtain⟨n,s1,h1,h2⟩:=wo_cons hcr h
  refine wsc_of ho h1 ?_ (wsc_light hcr (fun j hj=>hl j (List.mem_cons_of_mem _ hj)) h2)
  rw[loose_light ho hh]
  rfl
theorem ckl_ok (hcr:copyR ops=false) {s1 s2:St} {K:St->Prop} : ∀ {ck:List Nat},(∀k∈ck,∀o,ops[k]?=some o->lookU ops o=true)->CKL C ops s1 s2 K ck->(∀k∈ck,∃o,ops[k]?=some o/\ckOne C.P ops s1 s2 o=true)/\K s2
 | [],_,h=>⟨fun k hk=>(by cases hk),h⟩
 |k::r,hl,h=>by
  unfold CKL at h
  rw[opl]at h
  cases ho:ops[k]? with
  |none=>rw[ho]at h;exact h.elim
  |some o=>
   rw[ho]at h
   dsimp only at h
   cases hd:o.dst with
   |none=>rw[hd]at h;exact h.elim
   |some t=>
    rw[hd]at h
    obtain⟨n,s,h1,h2⟩:=wo_cons hcr h
    obtain⟨⟨e1,e2,e3⟩,h5⟩:=wo_nil h2
    have hlo:=lookU_light (hl k List.mem_cons_self o ho)
    have h1':=light_call (call':=fun _ _=>none) (mu':=fun _=>false) hlo h1
    obtain⟨a,b⟩:=ckl_ok hcr (fun j hj=>hl j (List.mem_cons_of_mem _ hj)) h5
    refine⟨fun j hj => ?_,b⟩
    rcases List.mem_cons.1 hj with rfl|hj
    ·refine⟨o,ho,?_⟩
     unfold ckOne
     rw[hd,h1']
     dsimp only
     rw[<- e2,<- e1,e3]
     rfl
    ·exact a j hj
theorem segs_ok (hcr:copyR ops=false) {Q:St->Prop} : ∀ {L acc:List Nat} {st:St},(∀i∈acc,∃o,ops[i]?=some o/\heavyO ops o=false)->WSS C ops Q (segsI ops L acc) st->WSC C ops (acc.reverse++L) st Q
 | [],acc,st,ha,h=>by
  unfold segsI WSS WX at h
  refine wsc_light hcr (fun i hi=>ha i (List.mem_reverse.1 hi)) ?_
  obtain⟨n,s,h1,q⟩:=h
  exact⟨n,s,h1,n,s,rfl,q⟩
 |i::r,acc,st,ha,h=>by
  unfold segsI at h
  cases ho:ops[i]? with
  |none=>rw[ho]at h;exact h.elim
  |some o=>
   rw[ho]at h
   dsimp only at h
   split at h
   ·unfold WSS WX at h
    refine wsc_light hcr (fun i hi=>ha i (List.mem_reverse.1 hi)) ?_
    obtain⟨n,s1,h1,h⟩:=h
    refine⟨n,s1,h1,?_⟩
    unfold ats at h
    rw[opl,ho]at h
    obtain⟨n2,s2,h2,h⟩:=wo_cons hcr h
    have h:=wo_nil h
    obtain⟨c1,c2⟩:=ckl_ok hcr (fun k hk o' ho'=>by
     obtain⟨_,p,hp,hu,_⟩:=loose_parts ho (List.mem_filter.1 hk).1
     rw[ho']at hp
     cases hp
     exact hu) h
    refine wsc_of ho h2 ?_ (segs_ok hcr (acc:=[]) (fun i hi=>by cases hi) c2)
    refine List.all_eq_true.2 fun k hk => ?_
    cases hr:r.contains k with
    |true=>rfl
    |false=>
     obtain⟨o',ho',hc⟩:=c1 k (List.mem_filter.2 ⟨hk,by rw[hr];rfl⟩)
     rw[ho']
     exact hc
   ·rename_i hv
    have:=segs_ok hcr (acc:=i::acc) (fun j hj=>by
     rcases List.mem_cons.1 hj with rfl|hj
     ·exact⟨o,ho,by simpa using hv⟩
     ·exact ha j hj) h
    rw[List.reverse_cons,List.append_assoc]at this
    exact this
def WLT (C:Cx) (ops:Array Oper) (S:List Seg) (Q:St->Prop):Option St->Prop
 |some st=>WSS C ops Q S st
 |none=>False
theorem vp_loose {id:Nat} {l:List Nat} {S:List Seg} (h:rootsOf C.P ops=l) (hl:looseR C.mu ops=true) (hS:segsI ops (ordI ops) []=S) (hcr:copyR ops=false) (k:WLT C ops S (R .normal) (frzAll st ((l.map st.tmp).filter ownRef))):WP C (.region id ops true) st R:=by
 cases h0:frzAll st ((l.map st.tmp).filter ownRef) with
 |none=>rw[h0]at k;exact k.elim
 |some st0=>
  rw[h0]at k
  subst hS
  obtain⟨n,s,h1,q⟩:=segs_ok hcr (acc:=[]) (fun i hi=>by cases hi) k
  have h1:execC C.P (callN C.P C.X C.mu C.good n) C.mu ops (ordI ops) st0=some s:=h1
  refine⟨n+1,.normal,s,?_,q⟩
  have hp:preFrz C.P true ops st=some st0:=by
   unfold preFrz
   rw[if_pos rfl,h,h0]
  unfold exec
  dsimp only
  rw[hp]
  dsimp only
  rw[hl]
  simp only[Bool.and_self,if_true]
  rw[execC_mono (callN_mono C.X (Nat.le_succ n)) h1]
theorem wlt_some {S:List Seg}:WLT C ops S Q (some st)=WSS C ops Q S st:=_root_.id rfl
theorem wlt_congr {S:List Seg} {x y:Option St} (h:x=y):WLT C ops S Q x=WLT C ops S Q y:=by rw[h]
theorem wss_last {l:List Oper} {is:List Nat} {S:List Seg}:WSS C l.toArray Q ((is,none)::S) st=WX C l.toArray (ats l is) st Q:=_root_.id rfl
theorem wss_cons {l:List Oper} {is ck:List Nat} {i:Nat} {S:List Seg}:WSS C l.toArray Q ((is,some (i,ck))::S) st=WX C l.toArray (ats l is) st (WSA C l.toArray Q i ck S):=_root_.id rfl
theorem wsa_go {l:List Oper} {ck:List Nat} {i:Nat} {S:List Seg}:WSA C l.toArray Q i ck S st=WX C l.toArray (ats l [i]) st (WSB C l.toArray Q ck S st):=_root_.id rfl
theorem wsb_go {ck:List Nat} {S:List Seg} {s1:St}:WSB C ops Q ck S s1 st=CKL C ops s1 st (WSS C ops Q S) ck:=_root_.id rfl
theorem wss_congr {S:List Seg} {st':St} (h:st=st'):WSS C ops Q S st=WSS C ops Q S st':=by rw[h]
theorem wx_congr {l l':List Oper} (h:l=l'):WX C ops l st Q=WX C ops l' st Q:=by rw[h]
theorem wx_cons {o:Oper} {l:List Oper}:WX C ops (o::l) st Q=WO C false ops (o::l) st Q:=_root_.id rfl
theorem wx_nil:WX C ops [] st Q=Q st:=vo_nil
theorem ats_nil {os:List Oper}:ats os []=[]:=_root_.id rfl
theorem ats_cons {os:List Oper} {i:Nat} {r:List Nat}:ats os (i::r)=ats1 os[i]? (ats os r):=_root_.id rfl
theorem ats1_some {o:Oper} {l:List Oper}:ats1 (some o) l=o::l:=_root_.id rfl
theorem ckl_nil {s1 s2:St} {K:St->Prop}:CKL C ops s1 s2 K []=K s2:=_root_.id rfl
theorem ckl_cons {l:List Oper} {s1 s2:St} {k:Nat} {r:List Nat} {K:St->Prop}:CKL C l.toArray s1 s2 K (k::r)=CK1 C l.toArray s1 s2 K l[k]? r:=_root_.id rfl
theorem ckq_go {s1 s2:St} {t:Nat} {r:List Nat} {K:St->Prop}:CKQ C ops s1 s2 K t r st=(SameT (st.tmp t) (s2.tmp t) (s1.tmp t)/\CKL C ops s1 s2 K r):=_root_.id rfl
theorem ckl_congr {s1 s2:St} {L:List Nat} {K:St->Prop} {x:St} (h:s1=x):CKL C ops s1 s2 K L=CKL C ops x s2 K L:=by rw[h]
theorem ck1_congr {s1 s2:St} {K:St->Prop} {r:List Nat} {x y:Option Oper} (h:x=y):CK1 C ops s1 s2 K x r=CK1 C ops s1 s2 K y r:=by rw[h]
theorem ck1_some {s1 s2:St} {K:St->Prop} {r:List Nat} {t:Nat} {op:Op} {ty:TypeId} {pos:String} {af:Array Edge} {g:Option (Nat×Bool)}:CK1 C ops s1 s2 K (some ⟨some t,op,ty,pos,af,g⟩) r=WO C false ops [⟨some t,op,ty,pos,af,g⟩] s2 (CKQ C ops s1 s2 K t r):=_root_.id rfl
def WXC (C:Cx) (ops:Array Oper):List Oper->St->(St->Prop)->Prop
 | [],st,Q=>Q st
 |o::l,st,Q=>if spcB o then (match valX C.P st o.op with
   |some v=>WXC C ops l (st.putO o.dst v) Q
   |none=>False) else WO C false ops [o] st fun s=>WXC C ops l s Q
def WXV (C:Cx) (ops:Array Oper) (l:List Oper) (dst:Option Nat) (st:St) (Q:St->Prop):Option TV->Prop
 |some v=>WXC C ops l (st.putO dst v) Q
 |none=>False
def WXK (C:Cx) (ops:Array Oper) (l:List Oper) (Q:St->Prop) (s:St):Prop:=WXC C ops l s Q
def CLD (C:Cx) (ops:Array Oper) (s1 s2:St) (K:St->Prop):List Nat->Prop
 | []=>K s2
 |k::r=>match ops.toList[k]? with
  |some o=>match o.dst with
   |some t=>WXC C ops [o] s2 (fun s=>SameT (s.tmp t) (s2.tmp t) (s1.tmp t)/\CLD C ops s1 s2 K r)
   |none=>False
  |none=>False
def CQD (C:Cx) (ops:Array Oper) (s1 s2:St) (K:St->Prop) (t:Nat) (r:List Nat) (s:St):Prop:=SameT (s.tmp t) (s2.tmp t) (s1.tmp t)/\CLD C ops s1 s2 K r
def C1D (C:Cx) (ops:Array Oper) (s1 s2:St) (K:St->Prop) (o:Option Oper) (r:List Nat):Prop:=match o with
 |some o=>match o.dst with
  |some t=>WXC C ops [o] s2 (CQD C ops s1 s2 K t r)
  |none=>False
 |none=>False
def WSD (C:Cx) (ops:Array Oper) (Q:St->Prop):List Seg->St->Prop
 | [],_=>False
 |(is,none)::_,st=>WXC C ops (ats ops.toList is) st Q
 |(is,some (i,ck))::S,st=>WXC C ops (ats ops.toList is) st fun s1=>WXC C ops (ats ops.toList [i]) s1 fun s2=>CLD C ops s1 s2 (WSD C ops Q S) ck
def WBD (C:Cx) (ops:Array Oper) (Q:St->Prop) (ck:List Nat) (S:List Seg) (s1 s2:St):Prop:=CLD C ops s1 s2 (WSD C ops Q S) ck
def WAD (C:Cx) (ops:Array Oper) (Q:St->Prop) (i:Nat) (ck:List Nat) (S:List Seg) (s1:St):Prop:=WXC C ops (ats ops.toList [i]) s1 (WBD C ops Q ck S s1)
def WLD (C:Cx) (ops:Array Oper) (S:List Seg) (Q:St->Prop):Option St->Prop
 |some st=>WSD C ops Q S st
 |none=>False
theorem wld_some {S:List Seg}:WLD C ops S Q (some st)=WSD C ops Q S st:=_root_.id rfl
theorem wld_congr {S:List Seg} {x y:Option St} (h:x=y):WLD C ops S Q x=WLD C ops S Q y:=by rw[h]
theorem wsd_last {l:List Oper} {is:List Nat} {S:List Seg}:WSD C l.toArray Q ((is,none)::S) st=WXC C l.toArray (ats l is) st Q:=_root_.id rfl
theorem wsd_cons {l:List Oper} {is ck:List Nat} {i:Nat} {S:List Seg}:WSD C l.toArray Q ((is,some (i,ck))::S) st=WXC C l.toArray (ats l is) st (WAD C l.toArray Q i ck S):=_root_.id rfl
theorem wad_go {l:List Oper} {ck:List Nat} {i:Nat} {S:List Seg}:WAD C l.toArray Q i ck S st=WXC C l.toArray (ats l [i]) st (WBD C l.toArray Q ck S st):=_root_.id rfl
theorem wbd_go {ck:List Nat} {S:List Seg} {s1:St}:WBD C ops Q ck S s1 st=CLD C ops s1 st (WSD C ops Q S) ck:=_root_.id rfl
theorem wsd_congr {S:List Seg} {st':St} (h:st=st'):WSD C ops Q S st=WSD C ops Q S st':=by rw[h]
theorem cld_nil {s1 s2:St} {K:St->Prop}:CLD C ops s1 s2 K []=K s2:=_root_.id rfl
theorem cld_cons {l:List Oper} {s1 s2:St} {k:Nat} {r:List Nat} {K:St->Prop}:CLD C l.toArray s1 s2 K (k::r)=C1D C l.toArray s1 s2 K l[k]? r:=_root_.id rfl
theorem cqd_go {s1 s2:St} {t:Nat} {r:List Nat} {K:St->Prop}:CQD C ops s1 s2 K t r st=(SameT (st.tmp t) (s2.tmp t) (s1.tmp t)/\CLD C ops s1 s2 K r):=_root_.id rfl
theorem cld_congr {s1 s2:St} {L:List Nat} {K:St->Prop} {x:St} (h:s1=x):CLD C ops s1 s2 K L=CLD C ops x s2 K L:=by rw[h]
theorem c1d_congr {s1 s2:St} {K:St->Prop} {r:List Nat} {x y:Option Oper} (h:x=y):C1D C ops s1 s2 K x r=C1D C ops s1 s2 K y r:=by rw[h]
theorem c1d_some {s1 s2:St} {K:St->Prop} {r:List Nat} {t:Nat} {op:Op} {ty:TypeId} {pos:String} {af:Array Edge} {g:Option (Nat×Bool)}:C1D C ops s1 s2 K (some ⟨some t,op,ty,pos,af,g⟩) r=WXC C ops [⟨some t,op,ty,pos,af,g⟩] s2 (CQD C ops s1 s2 K t r):=_root_.id rfl
theorem wxc_congr {l l':List Oper} (h:l=l'):WXC C ops l st Q=WXC C ops l' st Q:=by rw[h]
theorem wxv_congr {l:List Oper} {dst:Option Nat} {x y:Option TV} (h:x=y):WXV C ops l dst st Q x=WXV C ops l dst st Q y:=by rw[h]
theorem wxv_some {l:List Oper} {dst:Option Nat} {v:TV}:WXV C ops l dst st Q (some v)=WXC C ops l (st.putO dst v) Q:=_root_.id rfl
theorem wxk_go {l:List Oper}:WXK C ops l Q st=WXC C ops l st Q:=_root_.id rfl
theorem wxc_nil:WXC C ops [] st Q=Q st:=_root_.id rfl
section
variable {l:List Oper} {dst:Option Nat} {ty:TypeId} {pos:String} {af:Array Edge} {g:Option (Nat×Bool)}
theorem wxc_lit {t:TypeId}:WXC C ops (⟨dst,.buildSlice t 0 #[],ty,pos,af,none⟩::l) st Q=WXV C ops l dst st Q (valX C.P st (.buildSlice t 0 #[])):=by
 show (if spcB _=true then WXV C ops l dst st Q (valX C.P st _) else _)=_
 exact if_pos rfl
theorem wxc_app {c:Array Operand} {ts:Array TypeId}:WXC C ops (⟨dst,.call { callee := .builtin .append,args:=c,argTypes:=ts },ty,pos,af,none⟩::l) st Q=WXV C ops l dst st Q (valX C.P st (.call { callee := .builtin .append,args:=c,argTypes:=ts })):=by
 show (if spcB _=true then WXV C ops l dst st Q (valX C.P st _) else _)=_
 exact if_pos rfl
theorem wxc_go {o:Oper} (h:spcB o=false):WXC C ops (o::l) st Q=WO C false ops [o] st (WXK C ops l Q):=by
 show (if spcB o=true then _ else _)=_
 exact if_neg (by rw[h];simp)
theorem wxc_move {x:Operand}:WXC C ops (⟨dst,.move x,ty,pos,af,g⟩::l) st Q=WO C false ops [⟨dst,.move x,ty,pos,af,g⟩] st (WXK C ops l Q):=wxc_go rfl
theorem wxc_assign {x:Operand}:WXC C ops (⟨dst,.assign x,ty,pos,af,g⟩::l) st Q=WO C false ops [⟨dst,.assign x,ty,pos,af,g⟩] st (WXK C ops l Q):=wxc_go rfl
theorem wxc_load {t:TypeId} {x:Operand}:WXC C ops (⟨dst,.load t x,ty,pos,af,g⟩::l) st Q=WO C false ops [⟨dst,.load t x,ty,pos,af,g⟩] st (WXK C ops l Q):=wxc_go rfl
theorem wxc_store {t:TypeId} {x y:Operand}:WXC C ops (⟨dst,.store t x y,ty,pos,af,g⟩::l) st Q=WO C false ops [⟨dst,.store t x y,ty,pos,af,g⟩] st (WXK C ops l Q):=wxc_go rfl
theorem wxc_alloc {t:TypeId}:WXC C ops (⟨dst,.alloc t,ty,pos,af,g⟩::l) st Q=WO C false ops [⟨dst,.alloc t,ty,pos,af,g⟩] st (WXK C ops l Q):=wxc_go rfl
theorem wxc_build {t:TypeId} {ps:Array (Nat×Operand)}:WXC C ops (⟨dst,.build t ps,ty,pos,af,none⟩::l) st Q=WXV C ops l dst st Q (valX C.P st (.build t ps)):=by
 show (if spcB _=true then WXV C ops l dst st Q (valX C.P st _) else _)=_
 exact if_pos rfl
theorem wxc_fieldAddr {a b c:_}:WXC C ops (⟨dst,.fieldAddr a b c,ty,pos,af,g⟩::l) st Q=WO C false ops [⟨dst,.fieldAddr a b c,ty,pos,af,g⟩] st (WXK C ops l Q):=wxc_go rfl
theorem wxc_field {a b c:_}:WXC C ops (⟨dst,.field a b c,ty,pos,af,g⟩::l) st Q=WO C false ops [⟨dst,.field a b c,ty,pos,af,g⟩] st (WXK C ops l Q):=wxc_go rfl
theorem wxc_index {a b c:_}:WXC C ops (⟨dst,.index a b c,ty,pos,af,g⟩::l) st Q=WO C false ops [⟨dst,.index a b c,ty,pos,af,g⟩] st (WXK C ops l Q):=wxc_go rfl
theorem wxc_indexAddr {a b c:_}:WXC C ops (⟨dst,.indexAddr a b c,ty,pos,af,g⟩::l) st Q=WO C false ops [⟨dst,.indexAddr a b c,ty,pos,af,g⟩] st (WXK C ops l Q):=wxc_go rfl
theorem wxc_extract {a b:_}:WXC C ops (⟨dst,.extract a b,ty,pos,af,g⟩::l) st Q=WO C false ops [⟨dst,.extract a b,ty,pos,af,g⟩] st (WXK C ops l Q):=wxc_go rfl
theorem wxc_nilCheck {x:Operand}:WXC C ops (⟨dst,.nilCheck x,ty,pos,af,g⟩::l) st Q=WO C false ops [⟨dst,.nilCheck x,ty,pos,af,g⟩] st (WXK C ops l Q):=wxc_go rfl
theorem wxc_bin {a b c e f:_}:WXC C ops (⟨dst,.binOp a b c e f,ty,pos,af,g⟩::l) st Q=WO C false ops [⟨dst,.binOp a b c e f,ty,pos,af,g⟩] st (WXK C ops l Q):=wxc_go rfl
theorem wxc_len {c:Array Operand} {ts:Array TypeId}:WXC C ops (⟨dst,.call { callee := .builtin .len,args:=c,argTypes:=ts },ty,pos,af,g⟩::l) st Q=WO C false ops [⟨dst,.call { callee := .builtin .len,args:=c,argTypes:=ts },ty,pos,af,g⟩] st (WXK C ops l Q):=wxc_go rfl
end
theorem st_ptr {d g o:Nat}:SameT (.ptr d g o) (.ptr d g o) (.ptr d g o)=True:=eq_true ⟨rfl,rfl,by simp[sameTV,Nat.beq_refl]⟩
theorem st_ref {d g a b c:Nat}:SameT (.ref d g a b c) (.ref d g a b c) (.ref d g a b c)=True:=eq_true ⟨rfl,rfl,by simp[sameTV,Nat.beq_refl]⟩
theorem st_rfc {d g a b c e:Nat}:SameT (.rfc d g a b c e) (.rfc d g a b c e) (.rfc d g a b c e)=True:=eq_true ⟨rfl,rfl,by simp[sameTV,Nat.beq_refl]⟩
theorem st_nil:SameT .nil .nil .nil=True:=eq_true ⟨rfl,rfl,rfl⟩
theorem st_emp:SameT .emp .emp .emp=True:=eq_true ⟨rfl,rfl,rfl⟩
theorem st_skip:SameT .skip .skip .skip=True:=eq_true ⟨rfl,rfl,rfl⟩
theorem st_int {k:IntKind} {n:Int}:SameT (.sv (.int k n)) (.sv (.int k n)) (.sv (.int k n))=True:=eq_true ⟨rfl,rfl,by simp[sameTV,sameSV]⟩
theorem st_bool {b:Bool}:SameT (.sv (.bool b)) (.sv (.bool b)) (.sv (.bool b))=True:=eq_true ⟨rfl,rfl,by simp[sameTV,sameSV]⟩
theorem st_str {s:ByteArray}:SameT (.sv (.str s)) (.sv (.str s)) (.sv (.str s))=True:=eq_true ⟨rfl,rfl,by simp[sameTV,sameSV]⟩
end
end Go.Ev
namespace Go.Ev
section
variable {C:Cx} {soft:Bool} {ops:Array Oper} {l:List Oper} {st:St} {Q:St->Prop} {R:Ex->St->Prop} {d:Nat} {dst:Option Nat}
def RQ (P:Program) (rs:List ResultVar) (r:SV) (e:Ex) (st:St):Prop:=match e with
 | .exit _=>False
 | .goto _=>False
 |_=>retOf P st rs=some (.sv r)
def RO (st:St) (r:SV) (v:TV):Prop:=outSV st v=some r
def RC (sh:Option (Bool×Nat)) (r:SV) (cs:Option (List SV)):Prop:=match sh,cs with
 |some sh,some cs=>loadC sh cs=some r
 |_,_=>False
def RV (P:Program) (st:St) (r:SV):ResultVar->Prop
 | .tmp t=>RO st r (st.tmp t)
 | .cell a t=>RC (shp P t) r (match st.tmp a with | .ptr d g off=>(st.obj d g).map (·.drop off)|_=>none)
theorem rv_iff {P:Program} {rv:ResultVar} {r:SV}:RV P st r rv ↔ ∃v,resTV P st rv=some v/\outSV st v=some r:=by
 cases rv with
 |tmp t=>simp[RV,RO,resTV]
 |cell a t=>
  unfold RV RC resTV
  constructor
  ·intro h
   dsimp only at h
   split at h
   ·rename_i sh cs hsh hcs
    split at hcs
    ·rename_i d g off ht
     cases ho:st.obj d g with
     |none=>rw[ho]at hcs;cases hcs
     |some cs' =>
      rw[ho]at hcs
      cases hcs
      refine⟨.sv r,?_,rfl⟩
      have h':loadC sh (cs'.drop off)=some r:=h
      simp only[hsh,ht,ho,h',Option.map_some]
    ·cases hcs
   ·exact h.elim
  ·rintro⟨v,h,k⟩
   simp only at h ⊢
   split at h
   ·rename_i sh d g off hsh ht
    rw[hsh,ht]
    split at h
    ·rename_i cs hcs
     simp only[hcs,Option.map_some]
     cases hl:loadC sh (cs.drop off) with
     |none=>rw[hl]at h;cases h
     |some s=>
      rw[hl]at h
      cases h
      cases k
      rfl
    ·cases h
   ·cases h
theorem rq_one {P:Program} {rv:ResultVar} {r:SV}:RQ P [rv] r .ret st=RV P st r rv:=by
 refine propext (Iff.trans ?_ rv_iff.symm)
 show retOf P st [rv]=_↔_
 unfold retOf
 simp only
 constructor
 ·intro h
  split at h
  ·rename_i d g e
   split at h
   ·cases ho:st.obj d g with
    |none=>rw[ho]at h;cases h
    |some cs=>rw[ho]at h;cases h
   ·split at h
    ·split at h
     ·split at h<;>cases h
     ·cases h
    ·cases h
  ·rename_i v _ e
   cases ho:outSV st v with
   |none=>rw[ho]at h;cases h
   |some s=>rw[ho]at h;cases h;exact⟨v,e,ho⟩
  ·cases h
 ·rintro⟨v,e,h⟩
  split
  ·rename_i d g e'
   rw[e]at e'
   cases e'
   simp[outSV]at h
  ·rename_i u _ e'
   rw[e]at e'
   cases e'
   rw[h]
   rfl
  ·rename_i e'
   rw[e]at e'
   cases e'
theorem res_iff {P:Program} {rv:ResultVar} {rs:List ResultVar} {x:SV} {l:List SV}:resSVs P st (rv::rs)=some (x::l)↔RV P st x rv/\resSVs P st rs=some l:=by
 rw[rv_iff]
 conv=>lhs;unfold resSVs
 constructor
 ·intro h
  split at h
  ·rename_i v l' hv hl
   split at h
   ·rename_i s hs
    cases h
    exact⟨⟨v,hv,hs⟩,hl⟩
   ·cases h
  ·cases h
 ·rintro⟨⟨v,hv,hs⟩,hl⟩
  rw[hv,hl]
  simp only[hs]
theorem rq_two {P:Program} {a b:ResultVar} {x y:SV}:RQ P [a,b] (.tup [x,y]) .ret st=(RV P st x a/\RV P st y b):=by
 have e:RQ P [a,b] (.tup [x,y]) .ret st↔resSVs P st [a,b]=some [x,y]:=by
  show Option.map _ _=_↔_
  cases resSVs P st [a,b]<;>simp
 rw[propext e,propext res_iff,propext res_iff]
 simp[resSVs]
theorem rq_three {P:Program} {a b c:ResultVar} {x y z:SV}:RQ P [a,b,c] (.tup [x,y,z]) .ret st=(RV P st x a/\RV P st y b/\RV P st z c):=by
 have e:RQ P [a,b,c] (.tup [x,y,z]) .ret st↔resSVs P st [a,b,c]=some [x,y,z]:=by
  show Option.map _ _=_↔_
  cases resSVs P st [a,b,c]<;>simp
 rw[propext e,propext res_iff,propext res_iff,propext res_iff]
 simp[resSVs]
theorem rq_four {P:Program} {a b c d:ResultVar} {x y z u:SV}:RQ P [a,b,c,d] (.tup [x,y,z,u]) .ret st=(RV P st x a/\RV P st y b/\RV P st z c/\RV P st u d):=by
 have e:RQ P [a,b,c,d] (.tup [x,y,z,u]) .ret st↔resSVs P st [a,b,c,d]=some [x,y,z,u]:=by
  show Option.map _ _=_↔_
  cases resSVs P st [a,b,c,d]<;>simp
 rw[propext e,propext res_iff,propext res_iff,propext res_iff,propext res_iff]
 simp[resSVs]
theorem rv_tmp {P:Program} {r:SV} {t:Nat}:RV P st r (.tmp t)=RO st r (st.tmp t):=_root_.id rfl
theorem rv_cell {P:Program} {r:SV} {a:Nat} {t:TypeId}:RV P st r (.cell a t)=RC (shp P t) r (match st.tmp a with | .ptr d g off=>(st.obj d g).map (·.drop off)|_=>none):=_root_.id rfl
theorem rc_some {sh:Bool×Nat} {r:SV} {cs:List SV}:RC (some sh) r (some cs)=(loadC sh cs=some r):=_root_.id rfl
theorem ro_sv {s r:SV}:RO st r (.sv s)=(s=r):=by simp[RO,outSV]
theorem ro_nil {r:SV}:RO st r .nil=(.sl 0 []=r):=by simp[RO,outSV]
theorem ro_ref {g size off n:Nat} {cs:List SV} {r:SV} (hd:d<N0) (h:st.obj d g=some cs) (k : .sl n ((cs.drop off).take (n*size))=r):RO st r (.ref d g size off n):=by
 simp[RO,outSV,hd,h,k]
theorem stq_sv {args:List SV}:stq (args.map Arg.sv)=none:=by
 cases args with
 |nil=>rfl
 |cons a r=>cases r<;>rfl
theorem Fn.intro {f:FuncId} {fn:Func} {body:Code} {args:List SV} {r:SV} (hf:C.P.funcs[f]?=some fn) (hok:C.good f=true) (hb:fn.body=some body) (hX : ∀ars,C.X f ars=none) (hl:args.length<=fn.ntmps)
  (h:WP C body (argSt (args.map Arg.sv)) (RQ C.P fn.results.toList r)):Fn C f args r:=by
 obtain⟨n,e,st,he,hq⟩:=h
 refine⟨n+1,expOf st (args.map Arg.sv),?_⟩
 have hm:exec C.P (callN C.P C.X C.mu C.good n) C.mu n body (argSt (args.map Arg.sv))=some (e,st):=he
 unfold callN
 rw[stq_sv,hX]
 simp only[hf,hok,hb,if_true]
 rw[if_pos (by simpa using hl),hm]
 cases e with
 |exit i=>exact hq.elim
 |goto i=>exact hq.elim
 |normal=>show Option.map _ (retOf C.P st fn.results.toList)=_;rw[show retOf C.P st fn.results.toList=some (.sv r) from hq];rfl
 |ret=>show Option.map _ (retOf C.P st fn.results.toList)=_;rw[show retOf C.P st fn.results.toList=some (.sv r) from hq];rfl
theorem tmp_arg {args:List Arg} {t:Nat}:(argSt args).tmp t=(match args[t]? with
   |some (.sv s) => .sv s
   |some (.imp _) => .ptr (N0+t) 0 0
   |some (.impref _ size off n) => .ref (N0+t) 0 size off n
   |some (.st _ _ _) => .undef
   |none => .undef):=_root_.id rfl
theorem hob_arg {args:List Arg} {g:Nat}:(argSt args).hob d g=none:=_root_.id rfl
theorem up_arg {args:List Arg} {t:Nat}:(argSt args).up t = .undef:=_root_.id rfl
theorem gen_arg {args:List Arg}:(argSt args).gen d=if 1000000<=d then 1 else 0:=_root_.id rfl
theorem obj_arg {args:List Arg} {g:Nat}:(argSt args).obj d g=if 1000000<=d/\g=0 then (match args[d-1000000]? with
   |some (.imp cs)=>some cs
   |some (.impref cs _ _ _)=>some cs
   |_=>none) else none:=_root_.id rfl
theorem cst_bool {b:Bool}:cst (.bool b) = .sv (.bool b):=_root_.id rfl
theorem cst_int {k:IntKind} {n:Int}:cst (.int k n) = .sv (.int k n):=_root_.id rfl
theorem cst_str {s:ByteArray}:cst (.string s) = .sv (.str s):=_root_.id rfl
theorem cst_ptr:cst (.pointer none) = .sv (.con (.pointer none)):=_root_.id rfl
theorem cst_iface:cst .nilIface = .sv (.con .nilIface):=_root_.id rfl
theorem cst_nil:cst (.slice none 0 0) = .nil:=_root_.id rfl
theorem gdst_nil {j:Nat}:gdst #[] j=none:=_root_.id rfl
theorem gdst_zero {o:Oper} {l:List Oper}:gdst (o::l).toArray 0=o.dst:=_root_.id rfl
theorem gdst_succ {o:Oper} {l:List Oper} {j:Nat}:gdst (o::l).toArray (j+1)=gdst l.toArray j:=by
 simp[gdst]
end
attribute [congr] vt_congr vt2_congr vb_congr vb2_congr vm_congr vm2_congr vo_congr vp_congr vv_congr vs_congr wk_congr wg_congr wg2_congr vr_congr wn_congr wns_congr wl_congr rw_congr rf_congr va_congr vz_congr vy_congr vi_congr vf_congr vc_congr wlt_congr wss_congr wx_congr ckl_congr ck1_congr wld_congr wsd_congr wxc_congr wxv_congr cld_congr c1d_congr
attribute [go_sem] wld_some wsd_last wsd_cons wad_go wbd_go cqd_go wxc_nil wxc_lit wxc_app wxc_move wxc_assign wxc_load wxc_store wxc_alloc wxc_build wxc_fieldAddr wxc_field wxc_index wxc_indexAddr wxc_extract wxc_nilCheck wxc_bin wxc_len wxv_some wxk_go cld_nil cld_cons c1d_some valX wlt_some wss_last wss_cons wsa_go wsb_go ckq_go wx_cons wx_nil ats_nil ats_cons ats1_some ckl_nil ckl_cons ck1_some st_ptr st_ref st_rfc st_nil st_emp st_skip st_int st_bool st_str List.filter_cons List.filter_nil ownRef gdst_nil gdst_zero gdst_succ cst_bool cst_int cst_str cst_nil rq_one rq_two rq_three rq_four rv_tmp rv_cell rc_some ro_sv ro_nil Option.some.injEq vp_seq vp_region vo_nil vo_move vo_assign vo_pick vo_build vo_bin vo_un vo_convert vo_extract vo_field vo_fieldAddr vo_indexAddr idxV vo_slice vo_makeFunc vo_nilCheck vp_label vp_goto sc_normal sc_ret sc_exit nx_goto bk_goto cst_ptr cst_iface nilSV ptrSV vo_guard2 wg2_some wg_tt wg_ff wg_tf wg_ft wg_skip vo_len vo_min vo_max lenV vo_load vo_loadS vo_alloc vo_allocS vo_box vo_makeH vo_makeS vo_lit vo_softlit vo_store vo_storeS vo_append vo_copy vo_cap vo_clear vo_call vp_block vp_scope vp_exit vp_skip vp_ret vp_cond
 va_some va_none va_noneS vz_some vy_some frzAll frz_eq tmp_frzd obj_frzd gen_frzd tmp_grow obj_grow gen_grow distinct impIds impArgs expAll
 nx_normal nx_ret nx_exit bk_normal bk_ret bk_exit vb_some vb_none vb2_some vm_some vm_none vm2_some vt_some vt_none vt2_some vv_some vs_some wk_true vc_true vc_false
 putO_some putO_none eval_tmp eval_const eval_func tmp_put obj_put gen_put tmp_new obj_new gen_new tmp_set obj_set gen_set tmp_arg gen_arg obj_arg
 hob_put up_put hob_new up_new hob_set up_set hob_frzd up_frzd hob_grow up_grow tmp_newH obj_newH hob_newH gen_newH up_newH tmp_setH obj_setH gen_setH up_setH hob_setH tmp_enter obj_enter gen_enter hob_enter up_enter tmp_leave up_leave obj_leave gen_leave hob_leave hob_arg up_arg
 slotC_nil slotC_int slotC_sl slotsC slotT isSlV H0 INL rn_ret rf_some frzR_one frzR_nil frzR_two resTs rw_some rl_ret retI resIs resTV optT_some optT_none hget_some List.set_cons_zero List.set_cons_succ
 hard val bldP deskL intSV strSV store loadSt append appendTo copy softLit TV.adr TV.toSV allSV oneAll loadC partC fillC partsSV litC moreOf natTV lenTV loNat hiNat someNat slice3 capTV appendZ clearS TV.noCap sliceV sliceTV binSV unSV cmpSV minSV maxSV splice SV.cells SV.one TV.frz TV.kill
 List.getElem?_cons_zero List.getElem?_cons_succ List.getElem?_nil List.map_cons List.map_nil List.all_cons List.all_nil Bool.and_self Bool.and_true Bool.true_and if_true if_false and_self and_true true_and false_and and_false List.drop_zero List.drop_succ_cons List.length_cons List.length_nil
 List.take_succ_cons List.take_zero List.nil_append List.cons_append List.append_nil Option.map_some Option.map_none Option.isSome_some Option.isSome_none
end Go.Ev
namespace Go.Ev
theorem oa {p:Prop} (h:p:=by first|omega|(simp only[AL,List.length_map];omega)):p:=h
set_option linter.defProp false
def AX:=And.intro AR (And.intro @AL (And.intro @ifT (And.intro @ifF (And.intro @take_all (And.intro @List.length_cons.{0} @List.length_nil.{0})))))
section
variable {C:Cx} {soft:Bool} {ops:Array Oper} {l:List Oper} {st:St} {Q:St->Prop} {R:Ex->St->Prop} {dst:Option Nat}
theorem wki {k:Bool} {s:Option St} (h':WS C soft ops l Q s) (h:k=true:=by kernel_rfl):WK C soft ops l Q k s:=wk_intro h h'
theorem wqn {A B:Prop} (b:B) (h:soloR ops=false:=by kernel_rfl):WQ ops A B:=wq_no h b
theorem vpd (id:Nat) (l:List Nat) (k:WS C true ops ops.toList (R .normal) (frzAll st ((l.map st.tmp).filter ownRef))) (h:rootsOf C.P ops=l:=by kernel_rfl) (hl:looseR C.mu ops=false:=by kernel_rfl):WP C (.region id ops true) st R:=vp_draw h k hl
theorem vpx (l:List Nat) {id:Nat} (k:WS C true ops ops.toList (R .normal) (frzAll st ((l.map st.tmp).filter ownRef))) (h:rootsOf C.P ops=l:=by kernel_rfl) (hl:looseR C.mu ops=false:=by kernel_rfl):WP C (.region id ops true) st R:=vp_draw h k hl
theorem fni {f:FuncId} {args:List SV} {r:SV} (fn:Func) (h:WP C fn.body.get! (argSt (args.map Arg.sv)) (RQ C.P fn.results.toList r)) (hf:C.P.funcs[f]?=some fn:=by kernel_rfl) (hok:C.good f=true:=by kernel_rfl) (hb:fn.body=some fn.body.get!:=by kernel_rfl) (hX : ∀ars,C.X f ars=none:=by exact fun _=>rfl) (hl:args.length<=fn.ntmps:=by exact Nat.le_of_ble_eq_true (by kernel_rfl)):Fn C f args r:=Fn.intro hf hok hb hX hl h
theorem wni {g:FuncId} {vs:List TV} (fn:Func) (h:WP C fn.body.get! (st.enter vs) (RN C ops l dst fn.results.toList Q)) (hf:C.P.funcs[g]?=some fn:=by kernel_rfl) (hok:C.good g=true:=by kernel_rfl) (hb:fn.body=some fn.body.get!:=by kernel_rfl) (hl:vs.length<=fn.ntmps:=by exact Nat.le_of_ble_eq_true (by kernel_rfl)) (hX:C.X g [.st false st vs]=none:=by rfl):WN C ops l dst st Q g vs:=wn_of hf hok hb hl h hX
theorem vpl (id:Nat) (l:List Nat) (S:List Seg) (k:WLT C ops S (R .normal) (frzAll st ((l.map st.tmp).filter ownRef))) (h:rootsOf C.P ops=l:=by kernel_rfl) (hl:looseR C.mu ops=true:=by kernel_rfl) (hS:segsI ops (ordI ops) []=S:=by kernel_rfl) (hc:copyR ops=false:=by kernel_rfl):WP C (.region id ops true) st R:=vp_loose h hl hS hc k
end
end Go.Ev
namespace Go.Proofs.YtcfjiolldehegaaGreatDoor.F
open Go Go.Ev Go.Proofs
theorem isInt_3:isInt Proofs.Tryz.prog 3=some IntKind.i64:=by kernel_rfl
theorem hasTy_3:hasTy Proofs.Tryz.prog 3=true:=by kernel_rfl
theorem shp_4:shp Proofs.Tryz.prog 4=some (false,1):=by kernel_rfl
theorem isBool_4:isBool Proofs.Tryz.prog 4=true:=by kernel_rfl
theorem shp_5:shp Proofs.Tryz.prog 5=some (false,1):=by kernel_rfl
theorem zok_5:zok Proofs.Tryz.prog 5=true:=by kernel_rfl
theorem isInt_5:isInt Proofs.Tryz.prog 5=some IntKind.u8:=by kernel_rfl
theorem hasTy_5:hasTy Proofs.Tryz.prog 5=true:=by kernel_rfl
theorem shp_9:shp Proofs.Tryz.prog 9=some (false,1):=by kernel_rfl
theorem zer_9:zer Proofs.Tryz.prog 9=some [SV.str { data:={ toList:=[] } }]:=by kernel_rfl
theorem zok_9:zok Proofs.Tryz.prog 9=true:=by kernel_rfl
theorem isStr_9:isStr Proofs.Tryz.prog 9=true:=by kernel_rfl
theorem shp_25:shp Proofs.Tryz.prog 25=some (false,1):=by kernel_rfl
theorem isPtr_25:isPtr Proofs.Tryz.prog 25=true:=by kernel_rfl
theorem shp_28:shp Proofs.Tryz.prog 28=some (true,1):=by kernel_rfl
theorem zer_28:zer Proofs.Tryz.prog 28=some [SV.con (Value.pointer none)]:=by kernel_rfl
theorem zerB_28:zerB Proofs.Tryz.prog 28=some [SV.con (Value.pointer none)]:=by kernel_rfl
theorem plc_28:plc Proofs.Tryz.prog 28=some [(0,1)]:=by kernel_rfl
theorem fld_28_0:fld Proofs.Tryz.prog 28 0=some (0,25,1):=by kernel_rfl
theorem elm_30:elm Proofs.Tryz.prog 30=some (5,1,1):=by kernel_rfl
theorem elm_36:elm Proofs.Tryz.prog 36=some (9,1,16):=by kernel_rfl
theorem isIface_39:isIface Proofs.Tryz.prog 39=true:=by kernel_rfl
theorem shp_46:shp Proofs.Tryz.prog 46=some (false,1):=by kernel_rfl
theorem elm_46:elm Proofs.Tryz.prog 46=some (74,2,40):=by kernel_rfl
theorem fld_48_0:fld Proofs.Tryz.prog 48 0=some (0,46,1):=by kernel_rfl
theorem shp_72:shp Proofs.Tryz.prog 72=some (false,1):=by kernel_rfl
theorem elm_72:elm Proofs.Tryz.prog 72=some (80,3,56):=by kernel_rfl
theorem zok_72:zok Proofs.Tryz.prog 72=true:=by kernel_rfl
theorem shp_74:shp Proofs.Tryz.prog 74=some (true,2):=by kernel_rfl
theorem zer_74:zer Proofs.Tryz.prog 74=some [SV.str { data:={ toList:=[] } },SV.sl 0 []]:=by kernel_rfl
theorem zerB_74:zerB Proofs.Tryz.prog 74=some [SV.str { data:={ toList:=[] } },SV.sl 0 []]:=by kernel_rfl
theorem zok_74:zok Proofs.Tryz.prog 74=true:=by kernel_rfl
theorem plc_74:plc Proofs.Tryz.prog 74=some [(0,1),(1,1)]:=by kernel_rfl
theorem fld_74_0:fld Proofs.Tryz.prog 74 0=some (0,9,1):=by kernel_rfl
theorem fld_74_1:fld Proofs.Tryz.prog 74 1=some (1,72,1):=by kernel_rfl
theorem shp_78:shp Proofs.Tryz.prog 78=some (false,1):=by kernel_rfl
theorem elm_78:elm Proofs.Tryz.prog 78=some (189,1,4):=by kernel_rfl
theorem shp_80:shp Proofs.Tryz.prog 80=some (true,3):=by kernel_rfl
theorem zer_80:zer Proofs.Tryz.prog 80=some [SV.bool false,SV.sl 0 [],SV.sl 0 []]:=by kernel_rfl
theorem zerB_80:zerB Proofs.Tryz.prog 80=some [SV.bool false,SV.sl 0 [],SV.sl 0 []]:=by kernel_rfl
theorem zok_80:zok Proofs.Tryz.prog 80=true:=by kernel_rfl
theorem plc_80:plc Proofs.Tryz.prog 80=some [(0,1),(1,1),(2,1)]:=by kernel_rfl
theorem fld_80_0:fld Proofs.Tryz.prog 80 0=some (0,4,1):=by kernel_rfl
theorem fld_80_1:fld Proofs.Tryz.prog 80 1=some (1,78,1):=by kernel_rfl
theorem fld_80_2:fld Proofs.Tryz.prog 80 2=some (2,78,1):=by kernel_rfl
theorem elm_103:elm Proofs.Tryz.prog 103=some (72,1,24):=by kernel_rfl
theorem isInt_134:isInt Proofs.Tryz.prog 134=some IntKind.u64:=by kernel_rfl
theorem hasTy_134:hasTy Proofs.Tryz.prog 134=true:=by kernel_rfl
theorem isInt_166:isInt Proofs.Tryz.prog 166=some IntKind.u64:=by kernel_rfl
theorem hasTy_166:hasTy Proofs.Tryz.prog 166=true:=by kernel_rfl
theorem shp_189:shp Proofs.Tryz.prog 189=some (false,1):=by kernel_rfl
theorem zer_189:zer Proofs.Tryz.prog 189=some [SV.int IntKind.u32 0]:=by kernel_rfl
theorem zok_189:zok Proofs.Tryz.prog 189=true:=by kernel_rfl
theorem isInt_189:isInt Proofs.Tryz.prog 189=some IntKind.u32:=by kernel_rfl
theorem hasTy_189:hasTy Proofs.Tryz.prog 189=true:=by kernel_rfl
attribute [go_sem] isInt_3 hasTy_3 shp_4
attribute [go_sem] isBool_4 shp_5 zok_5 isInt_5 hasTy_5
attribute [go_sem] shp_9 zer_9 zok_9
attribute [go_sem] isStr_9
attribute [go_sem] shp_25 isPtr_25
attribute [go_sem] shp_28 zer_28 zerB_28 plc_28 fld_28_0 elm_30
attribute [go_sem] elm_36
attribute [go_sem] isIface_39
attribute [go_sem] shp_46 elm_46
attribute [go_sem] fld_48_0
attribute [go_sem] shp_72 elm_72 zok_72 shp_74 zer_74 zerB_74 zok_74 plc_74
attribute [go_sem] fld_74_0 fld_74_1 shp_78 elm_78
attribute [go_sem] shp_80 zer_80 zerB_80 zok_80 plc_80 fld_80_0 fld_80_1 fld_80_2
attribute [go_sem] elm_103
attribute [go_sem] isInt_134 hasTy_134
attribute [go_sem] isInt_166
attribute [go_sem] hasTy_166
attribute [go_sem] shp_189 zer_189 zok_189 isInt_189 hasTy_189
end Go.Proofs.YtcfjiolldehegaaGreatDoor.F
set_option linter.constructorNameAsVariable false
namespace Go.Proofs.YtcfjiolldehegaaGreatDoor
open Go.Ev Go.RowKit Go.WideShapes
theorem trodAll_stays {H:Type} {enc:TypeId×Value->H} {P:Program} (hl:laidOutB P=true) {W W':World} (hb:Below W.heap.size W W') {sp:Nat->Bool} :
  ∀ {ts:List TypeId} {vs:List Value} {ds:List (DataW H)} {ps:List MemPlace},(ts.all fun t=>P.readableRec t&&decide (t<P.types.size))=true->DataW.TrodAll enc P W 0 (fun _=>true) true ts vs ds ps ->
   (∀x∈ps,x.block<W.heap.size)->(∀x∈ps,sp x.block=true)->DataW.TrodAll enc P W' 0 sp true ts vs ds ps:=by
 intro ts
 induction ts with
 |nil=>
  intro vs ds ps _ h _ _
  cases vs<;>cases ds<;>simp_all [DataW.TrodAll]
 |cons t ts ih=>
  intro vs ds ps ht h hlt hs
  cases vs with
  |nil=>simp[DataW.TrodAll]at h
  |cons v vs=>
   cases ds with
   |nil=>simp[DataW.TrodAll]at h
   |cons d ds=>
    obtain⟨p,q,h1,h2,rfl⟩:=h
    rw[List.all_cons,Bool.and_eq_true,Bool.and_eq_true]at ht
    obtain⟨⟨ht1,ht2⟩,ht3⟩:=ht
    refine⟨p,q,WideElems.Trod_stays hl ht1 (of_decide_eq_true ht2) h1 (fun x hx=>hb.same (hlt x (List.mem_append_left _ hx))) (fun x hx=>hs x (List.mem_append_left _ hx)),?_,rfl⟩
    exact ih ht3 h2 (fun x hx=>hlt x (List.mem_append_right _ hx)) (fun x hx=>hs x (List.mem_append_right _ hx))
end Go.Proofs.YtcfjiolldehegaaGreatDoor
namespace Go.Ev
open Go.RowKit
section
variable {P:Program} {w0 w:World} {F I:Nat->Prop} {Z:Zy} {N:Nat} {st:St} {a:Act}
theorem nilcmp_region {call:Callf} (hcall:CallAll P Z.gl call) {id d1 d2 x n:Nat} {cs:List SV} {t t' ty1 ty2:TypeId} {p1 p2:String} {af1 af2:Array Edge} {e:Nat×Nat×Nat} (hto:To w0 F I Z N st a w) (hx:st.tmp x = .sv (.sl n cs))
  (hd1:d1<N) (hd2:d2<N) (he:elm P t=some e) {Q:Exit->Act->World->Prop}
  (hQ : ∀b a' w',(b=true->cs=[])->To w0 F I Z N ((st.put d1 (.sv (.sl n cs))).put d2 (.sv (.bool b))) a' w'->Q .normal a' w') :
  (Code.region id #[⟨some d1,.move (.tmp x),ty1,p1,af1,none⟩,⟨some d2,.binOp .eql t (.tmp d1) (.const (.slice none 0 0)) t',ty2,p2,af2,none⟩] false).wp P Q a w:=by
 obtain⟨β,hr⟩:=hto
 refine wp_region ?_
 show wpOps P _ Q [0,1] a w
 rw[wpOps_cons]
 refine stepO_wpOp (mu:=fun _=>false) (soft:=false) (st':=st.put d1 (.sv (.sl n cs))) hr hcall rfl (fun d e=>by cases e;exact hd1) ?_ (fun a' w' hto => ?_) Q
 ·show some (st.put d1 (st.tmp x))=_
  rw[hx]
 obtain⟨β',hr'⟩:=hto
 rw[wpOps_cons]
 unfold wpOp
 simp only[List.getElem?_toArray,List.getElem?_cons_succ,List.getElem?_cons_zero]
 rw[if_pos (by rfl)]
 have hv:=hr'.tmps d1
 rw[show (st.put d1 (.sv (.sl n cs))).tmp d1 = .sv (.sl n cs) from if_pos rfl]at hv
 obtain⟨e1,e2,e3⟩:=e
 obtain⟨hu,_⟩:=elm_parts he
 have hv':Rep w' (Mut F β' (st.put d1 (.sv (.sl n cs)))) (a'.tmps.getD d1 undef) (.sl n cs):=hv
 obtain⟨A,cap,hval,hcap⟩:=slice_len hv'
 refine .inl (Runs.wp (K:=fun a' w'=>wpOps P _ Q [] a' w') ⟨w',.inl ⟨.bool A.isNone,?_,?_⟩⟩)
 ·have h1:a'.eval (.tmp d1) = .slice A n cap:=hval
  have h2:a'.eval (.const (.slice none 0 0)) = .slice none 0 0:=rfl
  have hg:(eqGuard .eql t (.tmp d1) (.const (.slice none 0 0)) (.slice A n cap) (.slice none 0 0)).run P w' = .ok () w':=by
   unfold eqGuard;split<;>rfl
  simp only[execOp,h1,h2,Sem.run_bind,hg,Lib.run_eql_slice_nil w' t e1 A n cap 0 0 hu,Result.andThen_ok,Sem.run_pure]
 ·show Q .normal _ _
  refine hQ A.isNone _ _ (fun hb => ?_) ⟨β',hr'.putO (dst:=some d2) (t := .sv (.bool A.isNone)) (fun d e=>by cases e;exact hd2) (.bool _) (fun d g e=>by simp[TV.id]at e)⟩
  rw[hval]at hv'
  cases hv' with
  |sl0=>rfl
  |sl=>simp at hb
end
def cloneX (f:FuncId):Callf:=fun g args=>if g=f then match args with
 | [.sv (.sl n cs)]=>if cs.length=n/\oneAll cs=true/\n<=274877906944 then some (.sv (.sl n cs),[none]) else none
 |_=>none
 else none
theorem cloneX_ok {P:Program} {G:List (Nat×Value)} {f:FuncId} {fn:Func} {t ty1 ty2:TypeId} {p1 p2:String} {af1 af2:Array Edge} {i1:Nat} {c0 cT c3:Code} (hf:P.funcs[f]?=some fn) (hok:okFn P fn=true)
  (hb:fn.body=some (.seq c0 (.seq (.seq (.region i1 #[⟨some 3,.move (.tmp 0),ty1,p1,af1,none⟩,⟨some 4,.binOp .eql t (.tmp 3) (.const (.slice none 0 0)) t,ty2,p2,af2,none⟩] false) (.cond (.tmp 4) cT .skip)) c3)))
  (hn:4<fn.ntmps) {e:Nat×Nat×Nat} (he:elm P t=some e)
  (h0 : ∀n cs,∃k st,exec P (fun _ _=>none) (fun _=>false) k c0 (argSt [.sv (.sl n cs)])=some (.normal,st)/\st.tmp 0 = .sv (.sl n cs) /\
   (∃k st',exec P (fun _ _=>none) (fun _=>false) k cT ((st.put 3 (.sv (.sl n cs))).put 4 (.sv (.bool true)))=some (.ret,st')/\retOf P st' fn.results.toList=some (.sv (.sl 0 []))) /\
   (cs.length=n->oneAll cs=true->n<=274877906944 -> ∃call mu k st',CallAll P G call/\exec P call mu k c3 ((st.put 3 (.sv (.sl n cs))).put 4 (.sv (.bool false)))=some (.ret,st')/\retOf P st' fn.results.toList=some (.sv (.sl n cs)))) :
  CallOk P G (cloneX f):=by
 intro g args r exps h
 unfold cloneX at h
 split at h
 ·rename_i hg
  subst hg
  split at h
  ·rename_i n cs
   split at h
   ·rename_i hc
    cases h
    simp only[okFn,Bool.and_eq_true,hb,decide_eq_true_eq]at hok
    obtain⟨⟨⟨hm,hnm⟩,hN⟩,hcode⟩:=hok
    refine fun w F B vals hgl hF hsz hrep hinj => .inl ⟨enters_of hf hnm hb,?_⟩
    have hcall:CallAll P G (fun _ _=>none):=call_none
    have hent:=entry hgl hN (show ([Arg.sv (.sl n cs)]:List Arg).length<=fn.ntmps by simp;omega) hF hsz hrep hinj
    refine calls_of_wp hf hb ?_
    simp only[okCode,Bool.and_eq_true]at hcode
    obtain⟨hc0,⟨_,hcT,_⟩,hc3⟩:=hcode
    obtain⟨k,st,he0,hx,⟨kT,sT,heT,hrT⟩,h3⟩:=h0 n cs
    obtain⟨call3,mu3,k3,s3,hcall3,he3,hr3⟩:=h3 hc.1 hc.2.1 hc.2.2
    have fin : ∀ {st':St},retOf P st' fn.results.toList=some (.sv (.sl n cs)) -> ∀a' w',To w F (impB [.sv (.sl n cs)] B) ⟨B,fun _=>undef,False,G⟩ fn.ntmps st' a' w'->bodyPost P fn (fun e w' => ∃v,e = .returned v/\RetRep w w' F v (.sv (.sl n cs))/\Ext (impB [.sv (.sl n cs)] B) w w' /\ ∀ (i:Nat) (cs':List SV),([none]:List (Option (List SV)))[i]?=some (some cs')->Holds w' F (B i) cs') .ret a' w':=by
     intro st' hret a' w' ⟨β,hr⟩
     obtain⟨v,hv,hrr⟩:=hr.ret hret
     refine⟨hr.defers,v,hv,v,rfl,hrr,hr.ext,fun i cs' hi => ?_⟩
     cases i<;>simp at hi
    refine wp_seq (exec_wp (Z:=⟨B,fun _=>undef,False,G⟩) hcall hm k hc0 ⟨_,hent⟩ he0 fun a1 w1 hto1 => ?_)
    refine wp_seq (wp_seq (nilcmp_region (Z:=⟨B,fun _=>undef,False,G⟩) hcall hto1 hx (by omega) (by omega) he fun b a2 w2 hb2 hto2 => ?_))
    cases b with
    |true=>
     have hcs:=hb2 rfl
     subst hcs
     have hn0:n=0:=by simpa using hc.1.symm
     subst hn0
     obtain⟨β,hr2⟩:=hto2
     have hv4:Rep _ _ (a2.eval (.tmp 4)) (.bool true):=hr2.tmps 4
     refine wp_cond (rep_bool hv4) ?_
     exact exec_wp (Z:=⟨B,fun _=>undef,False,G⟩) hcall hm kT hcT ⟨β,hr2⟩ heT fun a3 w3 hto3=>fin hrT a3 w3 hto3
    |false=>
     have hto2':=hto2
     obtain⟨β,hr2⟩:=hto2
     have hv4:Rep _ _ (a2.eval (.tmp 4)) (.bool false):=hr2.tmps 4
     refine wp_cond (rep_bool hv4) ?_
     refine wp_skip ?_
     exact exec_wp (Z:=⟨B,fun _=>undef,False,G⟩) hcall3 hm k3 hc3 hto2' he3 fun a3 w3 hto3=>fin hr3 a3 w3 hto3
   ·cases h
  ·cases h
 ·cases h
end Go.Ev
namespace Go.Proofs.YtcfjiolldehegaaGreatDoor
open Go.Ev
def nGood:Nat:=341
def notGood:List Nat:=[5,32,119,130,205,213,303,328]
noncomputable def good (f:FuncId):Bool:=Nat.ble 2 f&&Nat.blt f (2+nGood) && !(notGood.any fun g=>Nat.beq g f)
def allOk (P:Program) (n:Nat):Bool:=(List.range n).all fun i=>notGood.any (fun g=>Nat.beq g (i+2))||match P.funcs[i+2]? with
 |some fn=>okFn P fn
 |none=>true
theorem good_of {P:Program} {n:Nat} (h:allOk P n=true) {f:Nat} {fn:Func} (h2:2<=f) (hn:f<2+n) (hb:(notGood.any fun g=>Nat.beq g f)=false) (hf:P.funcs[f]?=some fn):okFn P fn=true:=by
 unfold allOk at h
 have hlt:f-2<n:=by omega
 have:=List.all_eq_true.1 h (f-2) (List.mem_range.2 hlt)
 rw[show f-2+2=f by omega,hf,hb,Bool.false_or]at this
 exact this
theorem good_all:allOk Tryz.prog nGood=true:=by kernel_rfl
theorem good_ok:Go.Ev.Good Tryz.prog good:=by
 intro f fn hg hf
 unfold good at hg
 simp only[Bool.and_eq_true,Nat.ble_eq,Nat.blt_eq,Bool.not_eq_true']at hg
 exact good_of good_all hg.1.1 hg.1.2 hg.2 hf
end Go.Proofs.YtcfjiolldehegaaGreatDoor
namespace Go.Ev
section
variable {C:Cx} {ops:Array Oper} {l:List Oper} {st:St} {Q:St->Prop} {d:Nat}
def FnR (C:Cx) (f:FuncId) (args:List SV) (cs:List SV) (size off n:Nat):Prop := ∃m e,callN C.P C.X C.mu C.good m f (args.map Arg.sv)=some (.row cs size off n,e)
theorem vf_row {g:FuncId} {ss cs:List SV} {size off n:Nat} (h:FnR C g ss cs size off n) (k:WO C false ops l (st.new d cs (.ref d (st.gen d) size off n)) Q):WF C false ops l (some d) st Q g ss:=by
 obtain⟨m,e,hn⟩:=h
 exact⟨m,by rw[hn];exact k⟩
theorem vf_rowS {dst:Option Nat} {g:FuncId} {ss cs:List SV} {size off n:Nat} (h:FnR C g ss cs size off n) (k:WO C true ops l (st.putO dst (.sv (.sl n ((cs.drop off).take (n*size))))) Q):WF C true ops l dst st Q g ss:=by
 obtain⟨m,e,hn⟩:=h
 exact⟨m,by rw[hn];exact k⟩
def RR (P:Program) (rs:List ResultVar) (r:Ret) (e:Ex) (st:St):Prop:=match e with
 | .exit _=>False
 | .goto _=>False
 |_=>retRow P st rs=some r
theorem expOf_sv (st:St) (ars:List SV):expOf st (ars.map Arg.sv)=List.replicate ars.length none:=by
 unfold expOf
 rw[List.length_map]
 refine List.ext_getElem? fun i => ?_
 rw[List.getElem?_map,List.getElem?_replicate]
 rcases Nat.lt_or_ge i ars.length with h|h
 ·rw[List.getElem?_range h,if_pos h,Option.map_some,List.getElem?_map,List.getElem?_eq_getElem h]
  rfl
 ·rw[List.getElem?_eq_none (by simpa using h),if_neg (by omega)]
  rfl
theorem row_intro {f:FuncId} {fn:Func} {body:Code} {args:List SV} {r:Ret} (hf:C.P.funcs[f]?=some fn) (hok:C.good f=true) (hb:fn.body=some body) (hl:args.length<=fn.ntmps)
  (h:WP C body (argSt (args.map Arg.sv)) (RR C.P fn.results.toList r)) : ∃n,rowN C.P C.X C.mu C.good n f (args.map Arg.sv)=some (r,List.replicate args.length none):=by
 obtain⟨n,e,st,he,hq⟩:=h
 refine⟨n,?_⟩
 unfold rowN
 simp only[hf,hok,hb,if_true]
 rw[if_pos (by simpa using hl),he,<- expOf_sv st args]
 cases e with
 |exit i=>exact hq.elim
 |goto i=>exact hq.elim
 |normal=>show Option.map _ (retRow C.P st fn.results.toList)=_;rw[show retRow C.P st fn.results.toList=some r from hq];rfl
 |ret=>show Option.map _ (retRow C.P st fn.results.toList)=_;rw[show retRow C.P st fn.results.toList=some r from hq];rfl
theorem FnI_of {f:FuncId} {fn:Func} {body:Code} {args:List Arg} {T:SV->List (Option (List SV))->Prop} (hf:C.P.funcs[f]?=some fn) (hok:C.good f=true) (hb:fn.body=some body) (hX : ∀ars,C.X f ars=none) (hl:args.length<=fn.ntmps)
  (h:WP C body (argSt args) (fun e s => ∃r exps,T r exps/\RQ C.P fn.results.toList r e s/\expOf s args=exps)) (hst:stq args=none:=by rfl) : ∃r exps,T r exps/\FnI C f args r exps:=by
 obtain⟨n,e,st,he,r,exps,hT,hq,hexp⟩:=h
 refine⟨r,exps,hT,n+1,?_⟩
 unfold callN
 rw[hst,hX]
 simp only[hf,hok,hb,if_true]
 rw[if_pos hl,he,<- hexp]
 cases e with
 |exit i=>exact hq.elim
 |goto i=>exact hq.elim
 |normal=>show Option.map _ (retOf C.P st fn.results.toList)=_;rw[show retOf C.P st fn.results.toList=some (.sv r) from hq];rfl
 |ret=>show Option.map _ (retOf C.P st fn.results.toList)=_;rw[show retOf C.P st fn.results.toList=some (.sv r) from hq];rfl
theorem rr_one {P:Program} {t:Nat} {r:Ret}:RR P [.tmp t] r .ret st=((match st.tmp t with
  | .ref d g size off n=>if d<1000000 then (st.obj d g).map fun cs=>Ret.row cs size off n else none
  |_=>none)=some r):=by
 show (retRow P st [.tmp t]=some r)=_
 unfold retRow resTV
 dsimp only
 generalize st.tmp t=v
 cases v<;>rfl
end
attribute [go_sem] rr_one
end Go.Ev
namespace Go.Ev
theorem tab_row_ok {P:Program} {X:Callf} {mu good:FuncId->Bool} {G:List (Nat×Value)} (hX:TabOk P G X) (hg:Good P good) (X1:Callf)
  (h : ∀g args r exps,X1 g args=some (r,exps)->X g args=some (r,exps)\/(∃n,rowN P X mu good n g args=some (r,exps)) \/ ∃k st vs,args=[.st k st vs]):CallOk P G X1:=by
 intro g args r exps h1
 rcases h g args r exps h1 with h2|⟨n,h2⟩|⟨k,st,vs,rfl⟩
 ·exact hX.ok g args r exps h2
 ·exact rowN_ok hX hg h2
 ·intro w F B vals _ _ _ hrep _
  exact(hrep 0 _ rfl).elim
end Go.Ev
namespace Go.Ev
def bs (l:List UInt8):ByteArray:=⟨l.toArray⟩
theorem bs_toList (l:List UInt8):(bs l).data.toList=l:=by simp[bs]
theorem bs_size (l:List UInt8):(bs l).size=l.length:=by simp[bs,ByteArray.size]
theorem bs_get (l:List UInt8) (i:Nat):(bs l)[i]?=l[i]?:=by
 rw[getElem?_def]
 split
 ·rename_i h
  have h':i<l.length:=by rw[<- bs_size];exact h
  rw[List.getElem?_eq_getElem h']
  rfl
 ·rename_i h
  have h' : ¬i<l.length:=by rw[<- bs_size];exact h
  rw[List.getElem?_eq_none (by omega)]
theorem bs_append (a b:List UInt8):bs a++bs b=bs (a++b):=by
 apply ByteArray.ext
 simp[bs]
theorem bs_extract (l:List UInt8) (a b:Nat):(bs l).extract a b=bs ((l.drop a).take (b-a)):=by
 apply ByteArray.ext
 simp[bs]
theorem bs_list (l:List UInt8):(bs l).toList=l:=by
 rw[ByteArray.toList_eq]
 exact bs_toList l
theorem bs_eq {a b:List UInt8}:((bs a).toList==(bs b).toList)=(a==b):=by rw[bs_list,bs_list]
def dgR (n:Nat):List UInt8:=if n=0 then [] else UInt8.ofNat (48+n%10)::dgR (n/10)
termination_by n
theorem dgR_zero:dgR 0=[]:=by rw[dgR];rfl
theorem dgR_pos {n:Nat} (h:n≠0):dgR n=UInt8.ofNat (48+n%10)::dgR (n/10):=by rw[dgR,if_neg h]
def dec (n:Nat):List UInt8:=if n=0 then [48] else (dgR n).reverse
def dig (b:UInt8):Bool:=48<=b.toNat&&b.toNat<=57
def digs (l:List UInt8):Bool:=l.all dig
def natD (l:List UInt8):Nat:=l.foldl (fun a b=>a*10+(b.toNat-48)) 0
def natLE:List UInt8->Nat
 | []=>0
 |b::r=>(b.toNat-48)+10*natLE r
theorem natD_nil:natD []=0:=rfl
theorem natD_snoc (l:List UInt8) (b:UInt8):natD (l++[b])=natD l*10+(b.toNat-48):=by simp[natD]
theorem natD_rev (l:List UInt8):natD l.reverse=natLE l:=by
 induction l with
 |nil=>rfl
 |cons b r ih=>
  rw[List.reverse_cons,natD_snoc,ih,natLE]
  omega
theorem dig_of (n:Nat):(UInt8.ofNat (48+n%10)).toNat=48+n%10:=by
 rw[UInt8.toNat_ofNat']
 omega
theorem dig_ofNat (n:Nat):dig (UInt8.ofNat (48+n%10))=true:=by
 unfold dig
 rw[dig_of]
 simp
 omega
theorem dgR_unique : ∀ {l:List UInt8},digs l=true->(l=[] \/ ∃a b,l=a++[b]/\b≠48)->dgR (natLE l)=l:=by
 intro l
 induction l with
 |nil=>intro _ _;exact dgR_zero
 |cons b r ih=>
  intro hd hz
  unfold digs at hd
  rw[List.all_cons,Bool.and_eq_true]at hd
  have hb:=hd.1
  unfold dig at hb
  simp only[Bool.and_eq_true,decide_eq_true_eq]at hb
  have hr:r=[] \/ ∃a c,r=a++[c]/\c≠48:=by
   rcases hz with h|⟨a,c,h,hc⟩
   ·cases h
   ·cases a with
    |nil=>left;simp at h;exact h.2
    |cons x a=>right;simp at h;exact⟨a,c,h.2,hc⟩
  have hne:natLE (b::r)≠0:=by
   rw[natLE]
   rcases hr with h|⟨a,c,h,hc⟩
   ·subst h
    rcases hz with h|⟨a,c,h,hc⟩
    ·cases h
    ·have:b=c:=by
      cases a with
      |nil=>simpa using h
      |cons x a=>simp at h
     subst this
     have:b.toNat≠48:=fun e=>hc (UInt8.toNat_inj.1 (by rw[e];rfl))
     omega
   ·intro h0
    have h1:natLE r=0:=by omega
    have h2:=ih hd.2 (.inr ⟨a,c,h,hc⟩)
    rw[h1,dgR_zero]at h2
    rw[h]at h2
    simp at h2
  rw[dgR_pos hne,natLE]
  have e1:(b.toNat-48+10*natLE r)%10=b.toNat-48:=by omega
  have e2:(b.toNat-48+10*natLE r)/10=natLE r:=by omega
  rw[e1,e2,ih hd.2 hr]
  congr 1
  apply UInt8.toNat_inj.1
  rw[UInt8.toNat_ofNat']
  omega
theorem natLE_append (a b:List UInt8):natLE (a++b)=natLE a+10^a.length*natLE b:=by
 induction a with
 |nil=>simp[natLE]
 |cons x a ih=>
  rw[List.cons_append,natLE,ih,natLE,List.length_cons,Nat.pow_succ]
  rw[Nat.mul_add,Nat.mul_comm (10^a.length) 10,Nat.mul_assoc]
  omega
theorem natLE_lt {l:List UInt8} (h:digs l=true):natLE l<10^l.length:=by
 induction l with
 |nil=>simp[natLE]
 |cons b r ih=>
  unfold digs at h
  rw[List.all_cons,Bool.and_eq_true]at h
  have hb:=h.1
  unfold dig at hb
  simp only[Bool.and_eq_true,decide_eq_true_eq]at hb
  have:=ih h.2
  rw[natLE,List.length_cons,Nat.pow_succ]
  omega
end Go.Ev
namespace Go.Ev
open Go.RowKit
def CallAt (P:Program) (g:FuncId) (args:List Arg) (r:Ret) (exps:List (Option (List SV))):Prop:=
 ∀ (w:World) (F:Nat->Prop) (B:Nat->Nat) (vals:Array Value),(∀b,F b->b<w.heap.size)->vals.size=args.length ->
  (∀ (i:Nat) (x:Arg),args[i]?=some x->ArgRep w F (vals.getD i undef) (B i) x) ->
  (∀ (i j:Nat) (x y:Arg),args[i]?=some x->args[j]?=some y->isImp x=true->isImp y=true->B i=B j->i=j) ->
  Invk P g vals w fun e w' => ∃v,e = .returned v/\RetRep w w' F v r/\Ext (impB args B) w w' /\ ∀ (i:Nat) (cs:List SV),exps[i]?=some (some cs)->Holds w' F (B i) cs
theorem sv_imp {ss:List SV} {B:Nat->Nat} {b:Nat} : ¬impB (ss.map Arg.sv) B b:=by
 rintro⟨i,x,hx,hi,_⟩
 rw[List.getElem?_map]at hx
 cases hs:ss[i]? with
 |none=>rw[hs]at hx;cases hx
 |some s=>rw[hs]at hx;cases hx;cases hi
theorem ext_below {w w':World} {J:Nat->Prop} (h:Below w.heap.size w w') (hJ : ∀b,¬J b):Ext J w w' :=
 ⟨h.os,h.tape,h.output,h.size,fun b hb _=>h.block b hb,fun b cs ty hb hi _=>(hJ b hi).elim⟩
theorem at_extern {P:Program} {g:FuncId} {ss:List SV} {s:SV} {exps:List (Option (List SV))} (he : ∀i:Nat,exps[i]?≠some (some []) /\ ∀cs,exps[i]?≠some (some cs))
  (h : ∀ (w:World) (F:Nat->Prop) (vals:Array Value),vals.size=ss.length->(∀ (i:Nat) (x:SV),ss[i]?=some x->Rep w F (vals.getD i undef) x) -> ∃v,(callFunc g vals).run P w = .ok (.value v) w/\Rep w F v s) :
  CallAt P g (ss.map Arg.sv) (.sv s) exps:=by
 intro w F B vals hF hsz hrep hinj
 obtain⟨v,hv,hr⟩:=h w F vals (by simpa using hsz) (fun i x hx=>by
  have:=hrep i (.sv x) (by rw[List.getElem?_map,hx];rfl)
  exact this)
 exact .inr ⟨v,hv,v,rfl,hr,ext_below (Below.refl _ _) (fun b=>sv_imp),fun i cs hi=>((he i).2 cs hi).elim⟩
theorem at_calls {P:Program} {g:FuncId} {ss:List SV} {s:SV} {exps:List (Option (List SV))} (hE:Enters P g) (he : ∀i:Nat,exps[i]?≠some (some []) /\ ∀cs,exps[i]?≠some (some cs))
  (h : ∀ (w:World) (F:Nat->Prop) (vals:Array Value),vals.size=ss.length->(∀ (i:Nat) (x:SV),ss[i]?=some x->Rep w F (vals.getD i undef) x)->Calls P g vals w fun e w' => ∃v,e = .returned v/\Rep w' F v s/\Below w.heap.size w w') :
  CallAt P g (ss.map Arg.sv) (.sv s) exps:=by
 intro w F B vals hF hsz hrep hinj
 refine .inl ⟨hE,(h w F vals (by simpa using hsz) (fun i x hx=>hrep i (.sv x) (by rw[List.getElem?_map,hx];rfl))).mono ?_⟩
 rintro e w' ⟨v,rfl,hr,hb⟩
 exact⟨v,rfl,hr,ext_below hb (fun b=>sv_imp),fun i cs hi=>((he i).2 cs hi).elim⟩
theorem none_exps {n:Nat} (i:Nat):(List.replicate n (none:Option (List SV)))[i]?≠some (some []) /\ ∀cs,(List.replicate n (none:Option (List SV)))[i]?≠some (some cs):=by
 constructor
 ·intro h
  rw[List.getElem?_replicate]at h
  split at h<;>simp at h
 ·intro cs h
  rw[List.getElem?_replicate]at h
  split at h<;>simp at h
def xIndex:List Arg->Option (Ret×List (Option (List SV)))
 | [.sv (.str s),.sv (.int .u8 c)]=>some (.sv (.int .i64 (Lib.indexByte s.data.toList c.toNat.toUInt8)),List.replicate 2 none)
 |_=>none
def xCount:List Arg->Option (Ret×List (Option (List SV)))
 | [.sv (.str s),.sv (.int .u8 c)]=>some (.sv (.int .i64 (Lib.countByte s.data.toList c.toNat.toUInt8)),List.replicate 2 none)
 |_=>none
def xCmp:List Arg->Option (Ret×List (Option (List SV)))
 | [.sv (.str a),.sv (.str b)]=>some (.sv (.int .i64 (Lib.compareBytes a.data.toList b.data.toList)),List.replicate 2 none)
 |_=>none
def xTrim:List Arg->Option (Ret×List (Option (List SV)))
 | [.sv (.str s),.sv (.str c)]=>if s.size<=9223372036854775807/\c.size<4294967281/\c.data.toList.all (fun b=>decide (b.toNat<128))=true then some (.sv (.str (bs (Lib.trimS s.data.toList c.data.toList))),List.replicate 2 none) else none
 |_=>none
def xTrimLeft:List Arg->Option (Ret×List (Option (List SV)))
 | [.sv (.str s),.sv (.str c)]=>if c.size<4294967281/\c.data.toList.all (fun b=>decide (b.toNat<128))=true then some (.sv (.str (bs (Lib.trimLeftS s.data.toList c.data.toList))),List.replicate 2 none) else none
 |_=>none
def xAtoi:List Arg->Option (Ret×List (Option (List SV)))
 | [.sv (.str s)]=>match Lib.atoi s.data.toList with
  |some v=>if s.size<=18 then some (.sv (.tup [.int .i64 v,.con .nilIface]),List.replicate 1 none) else none
  |none=>none
 |_=>none
def strsOf:List SV->Option (List (List UInt8))
 | []=>some []
 | .str s::r=>match strsOf r with
  |some l=>some (s.data.toList::l)
  |none=>none
 |_=>none
def xJoin:List Arg->Option (Ret×List (Option (List SV)))
 | [.sv (.sl n cs),.sv (.str sep)]=>match strsOf cs with
  |some xs=>if xs.length=n/\n<=140737488355328/\(Lib.join xs sep.data.toList).length<=140737488355328 then some (.sv (.str (bs (Lib.join xs sep.data.toList))),List.replicate 2 none) else none
  |none=>none
 |_=>none
def splitB (c:UInt8):List UInt8->List (List UInt8)
 | []=>[[]]
 |b::r=>if b==c then []::splitB c r else match splitB c r with
  |x::xs=>(b::x)::xs
  | []=>[[b]]
def strC (l:List UInt8):SV := .str (bs l)
def xGenSplit:List Arg->Option (Ret×List (Option (List SV)))
 | [.sv (.str s),.sv (.str sep),.sv (.int .i64 0),.sv (.int .i64 (-1))]=>match sep.data.toList with
  | [c]=>if s.size<=1048576 then some (.row ((splitB c s.data.toList).map strC) 1 0 (splitB c s.data.toList).length,List.replicate 4 none) else none
  |_=>none
 |_=>none
def xSplit:List Arg->Option (Ret×List (Option (List SV)))
 | [.sv (.str s),.sv (.str sep)]=>match sep.data.toList with
  | [c]=>if s.size<=1048576 then some (.row ((splitB c s.data.toList).map strC) 1 0 (splitB c s.data.toList).length,List.replicate 2 none) else none
  |_=>none
 |_=>none
section
variable {P:Program} {g:FuncId} {fn:Func} {args:List Arg} {r:Ret} {exps:List (Option (List SV))}
theorem rep_str2 {w:World} {F:Nat->Prop} {vals:Array Value} {s:ByteArray} {x:SV} (hsz:vals.size=2) (h : ∀ (i:Nat) (y:SV),[SV.str s,x][i]?=some y->Rep w F (vals.getD i undef) y) : ∃v,vals = #[.string s,v]/\Rep w F v x:=by
 have h0:=h 0 _ rfl
 have h1:=h 1 _ rfl
 obtain⟨l⟩:=vals
 match l,hsz,h0,h1 with
 | [a,b],_,h0,h1=>
  have h0:Rep w F a (.str s):=h0
  have h1:Rep w F b x:=h1
  rw[rep_str h0]
  exact⟨b,rfl,h1⟩
theorem index_at (hf : P.funcs[g]? = some fn) (hname : (fn.name == "runtime.NumGoroutine") = false) (hb : fn.body.isNone = true) (hn : Extern.findNext fn = none) (he : Extern.find fn = some Extern.BytealgIndexByte.indexByte)
  (h:xIndex args=some (r,exps)):CallAt P g args r exps:=by
 unfold xIndex at h
 split at h
 ·rename_i s c
  cases h
  refine at_extern (ss:=[.str s,.int .u8 c]) none_exps fun w F vals hsz hrep => ?_
  obtain⟨v,rfl,hv⟩:=rep_str2 hsz hrep
  rw[rep_int hv]
  refine⟨_,?_,.int _ _⟩
  rw[run_callFunc_extern hf hname hb hn he,Lib.run_indexByteString]
  rfl
 ·cases h
theorem cmp_at (hf : P.funcs[g]? = some fn) (hname : (fn.name == "runtime.NumGoroutine") = false) (hb : fn.body.isNone = true) (hn : Extern.findNext fn = none) (he : Extern.find fn = some Extern.BytealgCompare.compare)
  (h:xCmp args=some (r,exps)):CallAt P g args r exps:=by
 unfold xCmp at h
 split at h
 ·rename_i s c
  cases h
  refine at_extern (ss:=[.str s,.str c]) none_exps fun w F vals hsz hrep => ?_
  obtain⟨v,rfl,hv⟩:=rep_str2 hsz hrep
  rw[rep_str hv]
  refine⟨_,?_,.int _ _⟩
  rw[run_callFunc_extern hf hname hb hn he,Lib.run_compareString]
  rfl
 ·cases h
theorem count_at (hf : P.funcs[g]? = some fn) (hname : (fn.name == "runtime.NumGoroutine") = false) (hb : fn.body.isNone = true) (hn : Extern.findNext fn = none) (he : Extern.find fn = some Extern.BytealgCount.count)
  (h:xCount args=some (r,exps)):CallAt P g args r exps:=by
 unfold xCount at h
 split at h
 ·rename_i s c
  cases h
  refine at_extern (ss:=[.str s,.int .u8 c]) none_exps fun w F vals hsz hrep => ?_
  obtain⟨v,rfl,hv⟩:=rep_str2 hsz hrep
  rw[rep_int hv]
  refine⟨_,?_,.int _ _⟩
  rw[run_callFunc_extern hf hname hb hn he,Lib.run_countString]
  rfl
 ·cases h
theorem trim_at (hE:Enters P g) (hC : ∀ (s c:ByteArray) (w:World),s.size<=9223372036854775807->c.size<4294967281->(∀ (j:Nat) b,c.data.toList[j]?=some b->b.toNat<128) ->
   Calls P g #[.string s,.string c] w fun e w'=>e = .returned (.string ⟨(Lib.trimS s.data.toList c.data.toList).toArray⟩)/\Below w.heap.size w w')
  (h:xTrim args=some (r,exps)):CallAt P g args r exps:=by
 unfold xTrim at h
 split at h
 ·rename_i s c
  split at h
  ·rename_i hc
   cases h
   refine at_calls (ss:=[.str s,.str c]) hE none_exps fun w F vals hsz hrep => ?_
   obtain⟨v,rfl,hv⟩:=rep_str2 hsz hrep
   rw[rep_str hv]
   refine(hC s c w hc.1 hc.2.1 (fun j b hb=>of_decide_eq_true (List.all_eq_true.1 hc.2.2 b (List.mem_of_getElem? hb)))).mono ?_
   rintro e w' ⟨rfl,hb⟩
   exact⟨_,rfl,.str _,hb⟩
  ·cases h
 ·cases h
theorem trimLeft_at (hE:Enters P g) (hC : ∀ (s c:ByteArray) (w:World),c.size<4294967281->(∀ (j:Nat) b,c.data.toList[j]?=some b->b.toNat<128) ->
   Calls P g #[.string s,.string c] w fun e w'=>e = .returned (.string ⟨(Lib.trimLeftS s.data.toList c.data.toList).toArray⟩)/\Below w.heap.size w w')
  (h:xTrimLeft args=some (r,exps)):CallAt P g args r exps:=by
 unfold xTrimLeft at h
 split at h
 ·rename_i s c
  split at h
  ·rename_i hc
   cases h
   refine at_calls (ss:=[.str s,.str c]) hE none_exps fun w F vals hsz hrep => ?_
   obtain⟨v,rfl,hv⟩:=rep_str2 hsz hrep
   rw[rep_str hv]
   refine(hC s c w hc.1 (fun j b hb=>of_decide_eq_true (List.all_eq_true.1 hc.2 b (List.mem_of_getElem? hb)))).mono ?_
   rintro e w' ⟨rfl,hb⟩
   exact⟨_,rfl,.str _,hb⟩
  ·cases h
 ·cases h
theorem atoi_at (hE:Enters P g) (hC : ∀ (s:ByteArray) (v:Int) (w:World),s.size<=18->Lib.atoi s.data.toList=some v ->
   Calls P g #[.string s] w fun e w'=>e = .returned (.tuple #[.int .i64 v,.nilIface])/\Below w.heap.size w w')
  (h:xAtoi args=some (r,exps)):CallAt P g args r exps:=by
 unfold xAtoi at h
 split at h
 ·rename_i s
  split at h
  ·rename_i v hv
   split at h
   ·rename_i hc
    cases h
    refine at_calls (ss:=[.str s]) hE none_exps fun w F vals hsz hrep => ?_
    have h0:=hrep 0 _ rfl
    obtain⟨l⟩:=vals
    match l,hsz,h0 with
    | [a],_,h0=>
     have h0:Rep w F a (.str s):=h0
     rw[rep_str h0]
     refine(hC s v w hc hv).mono ?_
     rintro e w' ⟨rfl,hb⟩
     refine⟨_,rfl,.tup _ _ rfl (fun i x hx => ?_),hb⟩
     match i with
     |0=>cases hx;exact .int _ _
     |1=>cases hx;exact .con _ rfl
     |i+2=>simp at hx
   ·cases h
  ·cases h
 ·cases h
theorem strsOf_get : ∀ {cs:List SV} {xs:List (List UInt8)},strsOf cs=some xs->cs=xs.map (fun l => .str (bs l))
 | [],xs,h=>by cases h;rfl
 |c::r,xs,h=>by
  unfold strsOf at h
  split at h
  ·rename_i heq;cases heq
  ·rename_i s r' heq
   injection heq with e1 e2
   subst e1 e2
   split at h
   ·rename_i l hl
    cases h
    rw[List.map_cons,<- strsOf_get hl]
    rfl
   ·cases h
  ·cases h
theorem join_at (hE:Enters P g)
  (h0 : ∀ (a:Option Addr) (c:Nat) (sep:ByteArray) (w:World),Calls P g #[.slice a 0 c,.string sep] w fun e w'=>e = .returned (.string ⟨#[]⟩)/\w'=w)
  (hC : ∀ (bk o c:Nat) (xs:List ByteArray) (sep:ByteArray) (w:World),(∀ (j:Nat) x,xs[j]?=some x->w.cell? ⟨bk,o+j,none⟩=some (.string x))->bk<w.heap.size->xs.length<=140737488355328->xs.length<=c ->
   (Lib.join (xs.map (·.data.toList)) sep.data.toList).length<=140737488355328 ->
   Calls P g #[.slice (some ⟨bk,o,none⟩) xs.length c,.string sep] w fun e w'=>e = .returned (.string ⟨(Lib.join (xs.map (·.data.toList)) sep.data.toList).toArray⟩)/\Below w.heap.size w w')
  (h:xJoin args=some (r,exps)):CallAt P g args r exps:=by
 unfold xJoin at h
 split at h
 ·rename_i n cs sep
  split at h
  ·rename_i xs hxs
   split at h
   ·rename_i hc
    cases h
    obtain⟨hn,hm,hl⟩:=hc
    refine at_calls (ss:=[.sl n cs,.str sep]) hE none_exps fun w F vals hsz hrep => ?_
    have r0:=hrep 0 _ rfl
    have r1:=hrep 1 _ rfl
    obtain⟨l⟩:=vals
    match l,hsz,r0,r1 with
    | [a,b],_,r0,r1=>
     have r0:Rep w F a (.sl n cs):=r0
     have r1:Rep w F b (.str sep):=r1
     rw[rep_str r1]
     have hcs:=strsOf_get hxs
     have none_case : ∀ (A:Option Addr) (cap:Nat),xs=[]->Calls P g #[.slice A 0 cap,.string sep] w fun e w' => ∃v,e = .returned v/\Rep w' F v (.str (bs (Lib.join xs sep.data.toList)))/\Below w.heap.size w w':=by
      intro A cap hx
      subst hx
      refine(h0 A cap sep w).mono ?_
      rintro e w' ⟨rfl,rfl⟩
      exact⟨_,rfl,.str _,Below.refl _ _⟩
     cases r0 with
     |sl0 A _ cap _=>
      have hx:xs=[]:=by
       cases xs with
       |nil=>rfl
       |cons x xs=>simp at hcs
      subst hx
      cases hn
      exact none_case A cap rfl
     |sl p _ cap hle _ c hb hcell hr=>
      cases xs with
      |nil=>cases hn;exact none_case _ cap rfl
      |cons x xs=>
       have hcell' : ∀ (j:Nat) (y:ByteArray),((x::xs).map bs)[j]?=some y->w.cell? (p.add j)=some (.string y):=by
        intro j y hy
        have hj:cs[j]?=some (.str y):=by
         rw[hcs]
         rw[List.getElem?_map]at hy ⊢
         cases hz:(x::xs)[j]? with
         |none=>rw[hz]at hy;cases hy
         |some z=>rw[hz]at hy;cases hy;rfl
        rw[hcell j _ hj,rep_str (hr j _ hj)]
       have hp:p=⟨p.block,p.off,none⟩:=by
        have:=hcell' 0 _ rfl
        rw[show p.add 0=p from rfl]at this
        obtain⟨pb,po,ps⟩:=p
        cases ps with
        |none=>rfl
        |some _=>
         simp[World.cell?]at this
         split at this<;>simp at this
       have hlt:p.block<w.heap.size:=World.block_lt_of_cell? w p (hcell' 0 _ rfl)
       have key:=hC p.block p.off cap ((x::xs).map bs) sep w (fun j y hy=>by
        have:=hcell' j y hy
        rw[hp,add_mk]at this
        exact this) hlt (by rw[List.length_map];omega) (by rw[List.length_map];omega) (by
         rw[List.map_map]
         have:(x::xs).map ((fun y:ByteArray=>y.data.toList) ∘ bs)=x::xs:=by
          rw[show ((fun y:ByteArray=>y.data.toList) ∘ bs)=id from funext fun y=>bs_toList y]
          simp
         rw[this]
         exact hl)
       rw[List.length_map,hn,<- hp,List.map_map]at key
       have e1:(x::xs).map ((fun y:ByteArray=>y.data.toList) ∘ bs)=x::xs:=by
        rw[show ((fun y:ByteArray=>y.data.toList) ∘ bs)=id from funext fun y=>bs_toList y]
        simp
       rw[e1]at key
       refine key.mono ?_
       rintro e w' ⟨rfl,hb⟩
       exact⟨_,rfl,.str _,hb⟩
   ·cases h
  ·cases h
 ·cases h
end
end Go.Ev
namespace Go.Ev
open Go.RowKit
def xCut:List Arg->Option (Ret×List (Option (List SV)))
 | [.sv (.str s),.sv (.str c)]=>if 2<=c.size/\s.size<4294967281 then some (.sv (.tup [.str (bs (Lib.cut s.data.toList c.data.toList).1),.str (bs (Lib.cut s.data.toList c.data.toList).2.1),.bool (Lib.cut s.data.toList c.data.toList).2.2]),List.replicate 2 none) else none
 |_=>none
section
variable {P:Program} {g:FuncId} {args:List Arg} {r:Ret} {exps:List (Option (List SV))} {G:List (Nat×Value)}
theorem gl_cell {w:World} {F:Nat->Prop} {n:Nat} {v:Value} (h:GlOk G w F) (hm:(n,v)∈G):w.cell? ⟨n,0,none⟩=some v:=by
 obtain⟨a,ha,hc⟩:=mem_cells (h n v hm)
 cases ha
 obtain⟨u,hu,hr⟩:=hc 0 _ rfl
 rw[add_zero]at hu
 cases hr
 exact hu
def CallG (P:Program) (G:List (Nat×Value)) (g:FuncId) (args:List Arg) (r:Ret) (exps:List (Option (List SV))):Prop:=
 ∀ (w:World) (F:Nat->Prop) (B:Nat->Nat) (vals:Array Value),GlOk G w F->(∀b,F b->b<w.heap.size)->vals.size=args.length ->
  (∀ (i:Nat) (x:Arg),args[i]?=some x->ArgRep w F (vals.getD i undef) (B i) x) ->
  (∀ (i j:Nat) (x y:Arg),args[i]?=some x->args[j]?=some y->isImp x=true->isImp y=true->B i=B j->i=j) ->
  Invk P g vals w fun e w' => ∃v,e = .returned v/\RetRep w w' F v r/\Ext (impB args B) w w' /\ ∀ (i:Nat) (cs:List SV),exps[i]?=some (some cs)->Holds w' F (B i) cs
theorem cut_at {gv:Nat} {m:Int} (hE:Enters P g) (hm:(gv,Value.int .i64 m)∈G) (hC : ∀ (s c:ByteArray) (w:World),s.size<4294967281->w.cell? ⟨gv,0,none⟩=some (.int .i64 m) ->
   Calls P g #[.string s,.string c] w fun e w'=>e = .returned (.tuple #[.string ⟨(Lib.cut s.data.toList c.data.toList).1.toArray⟩,.string ⟨(Lib.cut s.data.toList c.data.toList).2.1.toArray⟩,.bool (Lib.cut s.data.toList c.data.toList).2.2]) /\ ∃n,w'=w.drewN n)
  (h:xCut args=some (r,exps)):CallG P G g args r exps:=by
 unfold xCut at h
 split at h
 ·rename_i s c
  split at h
  ·rename_i hc
   cases h
   intro w F B vals hgl hF hsz hrep hinj
   have hrep : ∀ (i:Nat) (x:SV),[SV.str s,SV.str c][i]?=some x->Rep w F (vals.getD i undef) x:=fun i x hx=>by
    have:=hrep i (.sv x) (by
     show ([SV.str s,SV.str c].map Arg.sv)[i]?=_
     rw[List.getElem?_map,hx];rfl)
    exact this
   obtain⟨v,rfl,hv⟩:=rep_str2 (by simpa using hsz) hrep
   rw[rep_str hv]
   refine .inl ⟨hE,(hC s c w hc.2 (gl_cell hgl hm)).mono ?_⟩
   rintro e w' ⟨rfl,n,rfl⟩
   refine⟨_,rfl,?_,ext_below (below_drewN (Below.refl _ _) n) (fun b=>sv_imp (ss:=[SV.str s,SV.str c])),fun i cs hi=>((none_exps (n:=2) i).2 cs hi).elim⟩
   refine .tup _ _ rfl fun i x hx => ?_
   match i,hx with
   |0,hx=>cases hx;exact .str _
   |1,hx=>cases hx;exact .str _
   |2,hx=>cases hx;exact .bool _
   |_+3,hx=>simp at hx
  ·cases h
 ·cases h
def xFields (gw:FuncId):List Arg->Option (Ret×List (Option (List SV)))
 | [.sv (.str s),.sv (.fn g [])]=>if Nat.beq g gw=true/\s.size<=4294967296 then some (.sv (.sl (Lib.goFieldsP (fun c=>c==32) s).length ((Lib.goFieldsP (fun c=>c==32) s).map SV.str)),List.replicate 2 none) else none
 |_=>none
theorem fields_at {gw:FuncId} {t:TypeId} (hE:Enters P g) (hC : ∀ (s:ByteArray) (w:World),s.size<=4294967296 ->
   Calls P g #[.string s,.func (.func gw) #[] #[]] w fun e w' => ∃A,e = .returned (.slice (some ⟨A,0,none⟩) (Lib.goFieldsP (fun c=>c==32) s).length (Lib.goFieldsP (fun c=>c==32) s).length)/\w.heap.size<=A /\
    w'.ownsRow w.heap.size t 1 (.slice (some ⟨A,0,none⟩) (Lib.goFieldsP (fun c=>c==32) s).length (Lib.goFieldsP (fun c=>c==32) s).length) (Lib.goFieldsP (fun c=>c==32) s).length ((Lib.goFieldsP (fun c=>c==32) s).map Value.string)/\Below w.heap.size w w')
  (h:xFields gw args=some (r,exps)):CallAt P g args r exps:=by
 unfold xFields at h
 split at h
 ·rename_i s f
  split at h
  ·rename_i hc
   cases h
   obtain⟨hf,hs⟩:=hc
   have hf:f=gw:=Nat.eq_of_beq_eq_true hf
   subst hf
   intro w F B vals hF hsz hrep hinj
   have hrep : ∀ (i:Nat) (x:SV),[SV.str s,SV.fn f []][i]?=some x->Rep w F (vals.getD i undef) x:=fun i x hx=>by
    have:=hrep i (.sv x) (by
     show ([SV.str s,SV.fn f []].map Arg.sv)[i]?=_
     rw[List.getElem?_map,hx];rfl)
    exact this
   obtain⟨v,rfl,hv⟩:=rep_str2 (by simpa using hsz) hrep
   have hv':v = .func (.func f) #[] #[]:=by
    cases hv with
    |fn _ vs _ hl _=>
     have:vs = #[]:=Array.eq_empty_of_size_eq_zero (by simpa using hl)
     rw[this]
   rw[hv']
   refine .inl ⟨hE,(hC s w hs).mono ?_⟩
   rintro e w' ⟨A,rfl,hA,hown,hb⟩
   refine⟨_,rfl,?_,ext_below hb (fun b=>sv_imp (ss:=[SV.str s,SV.fn f []])),fun i cs hi=>((none_exps (n:=2) i).2 cs hi).elim⟩
   refine .sl _ _ _ (Nat.le_refl _) _ (fun i => .string ((Lib.goFieldsP (fun c=>c==32) s).getD i default)) (fun hf=>absurd (hF _ hf) (by simpa using hA)) (fun i x hx => ?_) (fun i x hx => ?_)
   ·rw[List.getElem?_map]at hx
    obtain⟨y,hy,rfl⟩:=map_some hx
    have:=hown.cells (g:=A) rfl i (.string y) (by rw[List.getElem?_map,hy];rfl)
    rw[this,List.getD_eq_getElem?_getD,hy]
    rfl
   ·rw[List.getElem?_map]at hx
    obtain⟨y,hy,rfl⟩:=map_some hx
    rw[List.getD_eq_getElem?_getD,hy]
    exact .str _
  ·cases h
 ·cases h
end
theorem Fn.introAt {C:Cx} {f:FuncId} {fn:Func} {body:Code} {args:List SV} {r:SV} (hf:C.P.funcs[f]?=some fn) (hok:C.good f=true) (hb:fn.body=some body) (hX:C.X f (args.map Arg.sv)=none) (hl:args.length<=fn.ntmps)
  (h:WP C body (argSt (args.map Arg.sv)) (RQ C.P fn.results.toList r)):Fn C f args r:=by
 obtain⟨n,e,st,he,hq⟩:=h
 refine⟨n+1,expOf st (args.map Arg.sv),?_⟩
 have hm:exec C.P (callN C.P C.X C.mu C.good n) C.mu n body (argSt (args.map Arg.sv))=some (e,st):=he
 unfold callN
 rw[stq_sv,hX]
 simp only[hf,hok,hb,if_true]
 rw[if_pos (by simpa using hl),hm]
 cases e with
 |exit i=>exact hq.elim
 |goto i=>exact hq.elim
 |normal=>show Option.map _ (retOf C.P st fn.results.toList)=_;rw[show retOf C.P st fn.results.toList=some (.sv r) from hq];rfl
 |ret=>show Option.map _ (retOf C.P st fn.results.toList)=_;rw[show retOf C.P st fn.results.toList=some (.sv r) from hq];rfl
end Go.Ev
namespace Go.Ev
open Go.RowKit
def insSt (st:St) (d g:Nat) (cs:List SV):St:=
 {tmp:=fun t=>(st.tmp t).kill d g
  obj:=fun d' g'=>if d'=d/\g'=g then some cs else st.obj d' g'
  gen:=fun d'=>st.gen d'+1
  hob:=fun d' g'=>(st.hob d' g').map fun ts=>ts.map fun t=>t.kill d g
  up:=fun t=>(st.up t).kill d g }
def xIns:List Arg->Option (Ret×List (Option (List SV)))
 | [.st false st [.ref d g 2 0 n,.sv (.int .i64 i),.ref d2 g2 2 0 1]]=>match st.obj d g,st.obj d2 g2 with
  |some cs,some [.str b,.sl m l]=>if d<N0 /\ ¬(d2=d/\g2=g)/\cs.length=n*2/\oneAll cs=true/\0<=i/\i.toNat<=n/\n<=100000 then
    some (.st (insSt st d g (cs.take (i.toNat*2)++[.str b,.sl m l]++cs.drop (i.toNat*2))) (.ref d g 2 0 (n+1)),[]) else none
  |_,_=>none
 |_=>none
def xDel:List Arg->Option (Ret×List (Option (List SV)))
 | [.st false st [.ref d g 2 0 n,.sv (.int .i64 i),.sv (.int .i64 j)]]=>match st.obj d g with
  |some cs=>if d<N0/\cs.length=n*2/\oneAll cs=true/\0<=i/\j=i+1/\i.toNat<n/\n<=100000 then
    some (.st (insSt st d g (cs.take (i.toNat*2)++cs.drop (i.toNat*2+2))) (.ref d g 2 0 (n-1)),[]) else none
  |none=>none
 |_=>none
def xOver:List Arg->Option (Ret×List (Option (List SV)))
 | [.st false st [.ref d g 2 0 1,.rfc d' g' 2 off n c]]=>if (st.obj d g).isSome=true/\(st.obj d' g').isSome=true /\ ¬(d=d'/\g=g')/\0<c then some (.st st (.sv (.bool false)),[]) else none
 |_=>none
theorem insSt_upd {s:St} {l:Loc} {d g:Nat} {cs:List SV} {v:TV}:insSt (s.upd l v) d g cs=(insSt s d g cs).upd l (v.kill d g):=by
 cases l with
 |tmp t=>
  refine St.ext' (fun x => ?_) (fun _ _=>rfl) (fun _=>rfl) rfl rfl
  show TV.kill d g (if x=t then v else s.tmp x)=if x=t then v.kill d g else (s.tmp x).kill d g
  split<;>rfl
 |up t=>
  refine St.ext' (fun _=>rfl) (fun _ _=>rfl) (fun _=>rfl) rfl (funext fun x => ?_)
  show TV.kill d g (if x=t then v else s.up x)=if x=t then v.kill d g else (s.up x).kill d g
  split<;>rfl
theorem ins_eqv {b:Bool} {s:St} {vs:List TV} {r:Ret} {e:List (Option (List SV))} (h:xIns [.st b s vs]=some (r,e)) (l:Loc) : ∃m:TV->TV,∀v,xIns [.st b (s.upd l v) vs]=some (r.upd l (m v),e):=by
 unfold xIns at h
 split at h
 ·rename_i st d g n i d2 g2 hargs
  cases hargs
  split at h
  ·rename_i cs bb m l0 h1 h2
   split at h
   ·rename_i hc
    cases h
    refine⟨fun v=>v.kill d g,fun v => ?_⟩
    unfold xIns
    simp only[upd_obj,h1,h2]
    rw[if_pos hc,insSt_upd]
    rfl
   ·cases h
  ·cases h
 ·cases h
theorem del_eqv {b:Bool} {s:St} {vs:List TV} {r:Ret} {e:List (Option (List SV))} (h:xDel [.st b s vs]=some (r,e)) (l:Loc) : ∃m:TV->TV,∀v,xDel [.st b (s.upd l v) vs]=some (r.upd l (m v),e):=by
 unfold xDel at h
 split at h
 ·rename_i st d g n i j hargs
  cases hargs
  split at h
  ·rename_i cs h1
   split at h
   ·rename_i hc
    cases h
    refine⟨fun v=>v.kill d g,fun v => ?_⟩
    unfold xDel
    simp only[upd_obj,h1]
    rw[if_pos hc,insSt_upd]
    rfl
   ·cases h
  ·cases h
 ·cases h
theorem over_eqv {b:Bool} {s:St} {vs:List TV} {r:Ret} {e:List (Option (List SV))} (h:xOver [.st b s vs]=some (r,e)) (l:Loc) : ∃m:TV->TV,∀v,xOver [.st b (s.upd l v) vs]=some (r.upd l (m v),e):=by
 unfold xOver at h
 split at h
 ·rename_i st d g d' g' off n c hargs
  cases hargs
  split at h
  ·rename_i hc
   cases h
   refine⟨id,fun v => ?_⟩
   unfold xOver
   simp only[upd_obj]
   rw[if_pos hc]
   rfl
  ·cases h
 ·cases h
section
variable {P:Program} {w0 w:World} {F I:Nat->Prop} {Z:Zy} {N:Nat} {β:Nat->Nat->Nat} {st:St} {a:Act}
theorem over_in {P : Program} {g : FuncId} {fn : Func} {tS tR e : TypeId} {size : Nat} (hf : P.funcs[g]? = some fn) (hname : (fn.name == "runtime.NumGoroutine") = false) (hb : fn.body.isNone = true) (hn : Extern.findNext fn = none) (he : Extern.find fn = some (Extern.SlicesOverlaps.overlaps #[tS, tS] #[tR]))
  (hel:elm P tS=some (e,2,size)) {k:Bool} {st:St} {vs:List TV} {r:Ret} {exps:List (Option (List SV))} (h:xOver [.st k st vs]=some (r,exps))
  (w0:World) (F I:Nat->Prop) (Z:Zy) (N:Nat) (β:Nat->Nat->Nat) (a:Act) (w:World) (vals:Array Value) (hrel:Rel w0 F I Z N β st a w) (hsz:vals.size=vs.length)
  (hv : ∀ (i:Nat) (v:TV),vs[i]?=some v->RepT β w (Mut F β st) (vals.getD i undef) v /\ ∀d g,v.id=some (d,g)->g<st.gen d) :
  Invk P g vals w fun e w' => ∃v,e = .returned v/\InRet w0 F I Z N st a w' k v r:=by
 unfold xOver at h
 split at h
 ·rename_i st1 d g1 d' g' off n c hargs
  cases hargs
  split at h
  ·rename_i hc
   cases h
   obtain⟨ho,ho',hne,hn0⟩:=hc
   obtain⟨cap,cs,ty,h1,h2,h3,h4⟩:=(hv 0 _ rfl).1
   obtain⟨cs',ty',h1',h2',h3',h4'⟩:=(hv 1 _ rfl).1
   have hvals:vals = #[vals.getD 0 undef,vals.getD 1 undef]:=by
    have:vals.size=2:=hsz
    apply Array.ext
    ·simpa using this
    ·intro i hi1 hi2
     have hi:i<2:=by simpa using hi2
     match i,hi with
     |0,_=>simp[Array.getD_eq_getD_getElem?,hi1]
     |1,_=>simp[Array.getD_eq_getD_getElem?,hi1]
   have hbne:β d g1≠β d' g':=fun e=>hne (hrel.inj _ _ _ _ ho ho' e)
   obtain⟨hu,i,hi,his,hib⟩:=elm_parts hel
   have hk:cs'.size≠0:=by omega
   refine .inr ⟨.bool false,?_,.bool false,rfl,rfl,β,hrel,.bool _,fun d g e=>by simp[TV.id]at e⟩
   rw[run_callFunc_extern hf hname hb hn he,hvals,h1,h1']
   rw[Lib.run_overlaps_apart w tS tR e hu 2 (fun w=>by rw[<- his];exact run_size hi w) ⟨β d g1,0,none⟩ ⟨β d' g',off,none⟩ 1 cap n c hbne ty ty' cs.size cs'.size (by simp only[World.shape?,h3]) (by simp only[World.shape?,h3']) hk
    (by simp only[World.frozen?,h3];simp) (by simp only[World.frozen?,h3];simp)]
   rfl
  ·cases h
 ·cases h
theorem Rel.genUp (h:Rel w0 F I Z N β st a w) {gen':Nat->Nat} (hg : ∀d,st.gen d<=gen' d):Rel w0 F I Z N β { st with gen:=gen' } a w where
 defers:=h.defers
 size:=h.size
 tmps:=h.tmps
 ids:=fun t d g hx=>Nat.lt_of_lt_of_le (h.ids t d g hx) (hg d)
 objs:=h.objs
 own:=h.own
 room:=h.room
 inj:=h.inj
 gens:=fun d g ho=>Nat.lt_of_lt_of_le (h.gens d g ho) (hg d)
 ext:=h.ext
 old:=h.old
 imps:=h.imps
 pin:=h.pin
 ups:=h.ups
 uids:=fun t d g hx=>Nat.lt_of_lt_of_le (h.uids t d g hx) (hg d)
 glob:=h.glob
 hobs:=fun d' g' ts hts=>by
  obtain⟨h1,h2,cs1,ty1,hb1,hall⟩:=h.hobs d' g' ts hts
  refine⟨h1,h2,cs1,ty1,hb1,fun i x hx => ?_⟩
  obtain⟨v,hv,ho,hr,hid⟩:=hall i x hx
  exact⟨v,hv,ho,hr,fun d1 g1 e=>Nat.lt_of_lt_of_le (hid d1 g1 e) (hg d1)⟩
theorem Rel.lessObj (h:Rel w0 F I Z N β st a w) {d g:Nat} {cs cs':List SV} (hdN:d<N0) (ho:st.obj d g=some cs) (hp : ∀ (i:Nat) (s:SV),cs'[i]?=some s->cs[i]?=some s):Rel w0 F I Z N β (st.set d g cs') a w:=by
 obtain⟨us,ty,hb,hall⟩:=h.objs d g cs ho
 exact h.set ho hb hb rfl (fun b _=>rfl) rfl rfl rfl rfl (fun i s hs=>hall i s (hp i s hs)) (.inl (h.no_hob (Nat.lt_trans hdN (by decide))))
theorem Rel.rename (h:Rel w0 F I Z N β st a w) {d g D G:Nat} {cs cs':List SV} (hd:d<N0) (hD:D<N0) (hne : ¬(d=D/\g=G)) (ho:st.obj d g=some cs) (hO:st.obj D G=some cs')
  (hno : ∀t d' g',(st.tmp t).id=some (d',g') -> ¬(d'=d/\g'=g) /\ ¬(d'=D/\g'=G)) (hnu : ∀t d' g',(st.up t).id=some (d',g') -> ¬(d'=d/\g'=g) /\ ¬(d'=D/\g'=G))
  (hnh : ∀ (d1 g1:Nat) (ts:List TV) (i:Nat) (x:TV) (d' g':Nat),st.hob d1 g1=some ts->ts[i]?=some x->x.id=some (d',g') -> ¬(d'=d/\g'=g) /\ ¬(d'=D/\g'=G)) :
  Rel w0 F I Z N (upd β d g (β D G)) { st with obj:=fun d' g'=>if d'=d/\g'=g then some cs' else if d'=D/\g'=G then none else st.obj d' g' } a w:=by
 generalize hs:({ st with obj:=fun d' g'=>if d'=d/\g'=g then some cs' else if d'=D/\g'=G then none else st.obj d' g' }:St)=s
 have etmp:s.tmp=st.tmp:=by rw[<- hs]
 have eup:s.up=st.up:=by rw[<- hs]
 have egen:s.gen=st.gen:=by rw[<- hs]
 have ehob:s.hob=st.hob:=by rw[<- hs]
 have eobj : ∀d' g',s.obj d' g'=if d'=d/\g'=g then some cs' else if d'=D/\g'=G then none else st.obj d' g':=fun d' g'=>by rw[<- hs]
 have hupd : ∀d' g',¬(d'=d/\g'=g)->upd β d g (β D G) d' g'=β d' g':=fun d' g' he=>if_neg he
 have hobj : ∀d' g',(s.obj d' g').isSome=true->(d'=d/\g'=g)\/((st.obj d' g').isSome=true /\ ¬(d'=d/\g'=g) /\ ¬(d'=D/\g'=G)):=by
  intro d' g' h1
  rw[eobj]at h1
  by_cases he:d'=d/\g'=g
  ·exact .inl he
  ·rw[if_neg he]at h1
   by_cases he2:d'=D/\g'=G
   ·rw[if_pos he2]at h1;cases h1
   ·rw[if_neg he2]at h1;exact .inr ⟨h1,he,he2⟩
 have hOs:(st.obj D G).isSome=true:=by rw[hO];rfl
 have hM : ∀b,Mut F (upd β d g (β D G)) s b->Mut F β st b:=by
  rintro b (hf|⟨d',g',h1,e⟩)
  ·exact .inl hf
  ·rcases hobj d' g' h1 with⟨rfl,rfl⟩|⟨h1',he,_⟩
   ·rw[upd_self]at e;exact .inr ⟨D,G,hOs,e⟩
   ·rw[hupd _ _ he]at e;exact .inr ⟨d',g',h1',e⟩
 have hrep : ∀ {v:Value} {x:SV},Rep w (Mut F β st) v x->Rep w (Mut F (upd β d g (β D G)) s) v x:=fun hr=>Rep.mono (w:=w) (fun _ _ _=>rfl) (fun b _ hm=>hM b hm) hr
 have hT : ∀ {v:Value} {x:TV},RepT β w (Mut F β st) v x->(∀d' g',x.id=some (d',g') -> ¬(d'=d/\g'=g) /\ ¬(d'=D/\g'=G))->RepT (upd β d g (β D G)) w (Mut F (upd β d g (β D G)) s) v x:=by
  intro v x hold hids
  cases x with
  |sv s=>exact hrep hold
  |nil=>exact hold
  |undef=>trivial
  |skip=>exact hold
  |emp=>exact hold
  |ptr d' g' off=>show _=_;rw[hupd d' g' (hids d' g' rfl).1];exact hold
  |pst d' g'=>show _=_;rw[hupd d' g' (hids d' g' rfl).1];exact hold
  |ref d' g' size off n=>
   obtain⟨cap,cs',ty',h1,h2,h3,h4⟩:=hold
   rw[<- hupd d' g' (hids d' g' rfl).1]at h1 h3
   exact⟨cap,cs',ty',h1,h2,h3,h4⟩
  |rfc d' g' size off n c=>
   obtain⟨cs',ty',h1,h2,h3,h4⟩:=hold
   rw[<- hupd d' g' (hids d' g' rfl).1]at h1 h3
   exact⟨cs',ty',h1,h2,h3,h4⟩
 exact {
  defers:=h.defers
  size:=h.size
  tmps:=fun u=>by rw[etmp];exact hT (h.tmps u) (hno u)
  ids:=fun u d' g' hx=>by rw[egen];rw[etmp]at hx;exact h.ids u d' g' hx
  objs:=fun d' g' cells hc=>by
   rw[eobj]at hc
   by_cases he:d'=d/\g'=g
   ·rw[if_pos he]at hc
    obtain⟨rfl,rfl⟩:=he
    cases hc
    obtain⟨us,ty,hb,hall⟩:=h.objs D G cs' hO
    refine⟨us,ty,by rw[upd_self];exact hb,fun i s hs => ?_⟩
    obtain⟨h1,u,hu,hr⟩:=hall i s hs
    exact⟨h1,u,hu,hrep hr⟩
   ·rw[if_neg he]at hc
    by_cases he2:d'=D/\g'=G
    ·rw[if_pos he2]at hc;cases hc
    ·rw[if_neg he2]at hc
     obtain⟨us,ty,hb,hall⟩:=h.objs d' g' cells hc
     refine⟨us,ty,by rw[hupd _ _ he];exact hb,fun i s hs => ?_⟩
     obtain⟨h1,u,hu,hr⟩:=hall i s hs
     exact⟨h1,u,hu,hrep hr⟩
  own:=fun d' g' h1=>by
   rcases hobj d' g' h1 with⟨rfl,rfl⟩|⟨h1',he,_⟩
   ·rw[upd_self]
    exact⟨fun _=>(h.own D G hOs).1 (.inl hD),fun hn _=>absurd hd (by omega)⟩
   ·rw[hupd _ _ he];exact h.own d' g' h1'
  room:=h.room
  inj:=fun d1 g1 d2 g2 h1 h2 e=>by
   rcases hobj d1 g1 h1 with⟨rfl,rfl⟩|⟨h1',he1,hq1⟩<;>rcases hobj d2 g2 h2 with⟨rfl,rfl⟩|⟨h2',he2,hq2⟩
   ·exact⟨rfl,rfl⟩
   ·rw[upd_self,hupd _ _ he2]at e
    have:=h.inj D G d2 g2 hOs h2' e
    exact(hq2 ⟨this.1.symm,this.2.symm⟩).elim
   ·rw[upd_self,hupd _ _ he1]at e
    exact(hq1 (h.inj d1 g1 D G h1' hOs e)).elim
   ·rw[hupd _ _ he1,hupd _ _ he2]at e
    exact h.inj d1 g1 d2 g2 h1' h2' e
  gens:=fun d' g' h1=>by
   rw[egen]
   rcases hobj d' g' h1 with⟨rfl,rfl⟩|⟨h1',_⟩
   ·exact h.gens d' g' (by rw[ho];rfl)
   ·exact h.gens d' g' h1'
  ext:=h.ext
  old:=h.old
  imps:=h.imps
  pin:=fun d' g' hd' hd''=>(hupd d' g' (fun e=>by omega)).trans (h.pin d' g' hd' hd'')
  ups:=fun u=>by rw[eup];exact hT (h.ups u) (hnu u)
  uids:=fun u d' g' hx=>by rw[egen];rw[eup]at hx;exact h.uids u d' g' hx
  glob:=fun g v hg=>hrep (h.glob g v hg)
  hobs:=fun d' g' ts hts=>by
   rw[ehob]at hts
   obtain⟨h1,h2,cs1,ty1,hb1,hall⟩:=h.hobs d' g' ts hts
   have hH:N0<H0:=by decide
   have hne1 : ¬(d'=d/\g'=g):=fun e=>by omega
   have hne2 : ¬(d'=D/\g'=G):=fun e=>by omega
   refine⟨h1,by rw[eobj,if_neg hne1,if_neg hne2];exact h2,cs1,ty1,by rw[hupd _ _ hne1];exact hb1,fun i x hx => ?_⟩
   obtain⟨v,hv,ho,hr,hid⟩:=hall i x hx
   exact⟨v,hv,ho,hT hr (fun a1 a2 e=>hnh d' g' ts i x a1 a2 hts hx e),fun a1 a2 e=>by rw[egen];exact hid a1 a2 e⟩ }
structure InsLeaves (st:St) (d g n:Nat) (cs:List SV) (s:St) (t:TV):Prop where
 tmp : ∀u,s.tmp u=st.tmp u
 up : ∀u,s.up u=st.up u
 hob : ∀d' g',s.hob d' g'=st.hob d' g'
 here:(∃cs1,(∀d' g',s.obj d' g'=if d'=d/\g'=g then some cs1 else st.obj d' g')/\(∀ (i:Nat) (x:SV),cs[i]?=some x->cs1[i]?=some x)/\(∀d',s.gen d'=st.gen d')/\t = .ref d g 2 0 n) \/
  ∃D,D<N0/\(∀d' g',s.obj d' g'=if d'=D/\g'=st.gen D then some cs else st.obj d' g')/\(∀d',s.gen d'=if d'=D then st.gen D+1 else st.gen d')/\t = .ref D (st.gen D) 2 0 n
theorem st_eq {s s':St} (h1 : ∀u,s.tmp u=s'.tmp u) (h2 : ∀d g,s.obj d g=s'.obj d g) (h3 : ∀d,s.gen d=s'.gen d) (h4 : ∀d g,s.hob d g=s'.hob d g) (h5 : ∀u,s.up u=s'.up u):s=s':=by
 obtain⟨a1,a2,a3,a4,a5⟩:=s
 obtain⟨b1,b2,b3,b4,b5⟩:=s'
 have e1:a1=b1:=funext h1
 have e2:a2=b2:=funext fun d=>funext fun g=>h2 d g
 have e3:a3=b3:=funext h3
 have e4:a4=b4:=funext fun d=>funext fun g=>h4 d g
 have e5:a5=b5:=funext h5
 subst e1 e2 e3 e4 e5
 rfl
theorem InsLeaves.ups {s:St} {vs:List TV} (h : ∀u,s.up u=(st.enter vs).up u):(∀u,s.leave.tmp u=st.tmp u) /\ ∀u,s.leave.up u=st.up u:=by
 constructor
 ·intro u
  show s.up (2*u)=_
  rw[h]
  show (if 2*u%2=0 then st.tmp (2*u/2) else st.up (2*u/2))=_
  rw[if_pos (by omega),show 2*u/2=u by omega]
 ·intro u
  show s.up (2*u+1)=_
  rw[h]
  show (if (2*u+1)%2=0 then st.tmp ((2*u+1)/2) else st.up ((2*u+1)/2))=_
  rw[if_neg (by omega),show (2*u+1)/2=u by omega]
theorem leaves_here {s:St} {vs:List TV} {d g n:Nat} {cs:List SV} (cs1:List SV) {rs:List ResultVar} (hr:retI P s rs=some (.ref d g 2 0 n)) (h1 : ∀u,s.up u=(st.enter vs).up u) (h2 : ∀d' g',s.hob d' g'=st.hob d' g')
  (h3 : ∀d' g',s.obj d' g'=if d'=d/\g'=g then some cs1 else st.obj d' g') (h4 : ∀d',s.gen d'=st.gen d') (hp : ∀ (i:Nat) (x:SV),cs[i]?=some x->cs1[i]?=some x):RZ P rs (InsLeaves st d g n cs) .ret s:=
 rz_ret hr ⟨(InsLeaves.ups h1).1,(InsLeaves.ups h1).2,h2,.inl ⟨cs1,h3,hp,h4,rfl⟩⟩ (frzR_ref hr)
theorem leaves_new {s:St} {vs:List TV} {d g n:Nat} {cs:List SV} (D:Nat) {rs:List ResultVar} (hr:retI P s rs=some (.ref D (st.gen D) 2 0 n)) (hD:D<N0) (h1 : ∀u,s.up u=(st.enter vs).up u) (h2 : ∀d' g',s.hob d' g'=st.hob d' g')
  (h3 : ∀d' g',s.obj d' g'=if d'=D/\g'=st.gen D then some cs else st.obj d' g') (h4 : ∀d',s.gen d'=if d'=D then st.gen D+1 else st.gen d'):RZ P rs (InsLeaves st d g n cs) .ret s:=
 rz_ret hr ⟨(InsLeaves.ups h1).1,(InsLeaves.ups h1).2,h2,.inr ⟨D,hD,h3,h4,rfl⟩⟩ (frzR_ref hr)
theorem InsLeaves.to {s:St} {t:TV} {d g n:Nat} {cs cs0:List SV} (h:InsLeaves st d g n cs s t) {w1:World} {β1:Nat->Nat->Nat} {v:Value} (h0:Rel w0 F I Z N β st a w) (hd:d<N0) (ho:st.obj d g=some cs0)
  (hr:Rel w0 F I Z N β1 s a w1) (ht:RepT β1 w1 (Mut F β1 s) v t) : ∃β',Rel w0 F I Z N β' (insSt st d g cs) a w1/\RepT β' w1 (Mut F β' (insSt st d g cs)) v (.ref d g 2 0 n) /\ ∀d' g',(TV.ref d g 2 0 n).id=some (d',g')->g'<(insSt st d g cs).gen d':=by
 have hgen : ∀d' g',(TV.ref d g 2 0 n).id=some (d',g')->g'<(insSt st d g cs).gen d':=by
  intro d' g' e
  simp only[TV.id,Option.some.injEq,Prod.mk.injEq]at e
  obtain⟨rfl,rfl⟩:=e
  exact Nat.lt_succ_of_lt (h0.gens _ _ (by rw[ho];rfl))
 obtain⟨etmp,eup,ehob,here⟩:=h
 rcases here with⟨cs1,eobj,hpre,egen,rfl⟩|⟨D,hD,eobj,egen,rfl⟩
 ·have h1:=((hr.kill d g).lessObj (cs:=cs1) (cs':=cs) hd (by show s.obj d g=_;rw[eobj,if_pos ⟨rfl,rfl⟩]) hpre).genUp (gen':=fun d'=>st.gen d'+1) (fun d'=>by show s.gen d'<=_;rw[egen];exact Nat.le_succ _)
  have e:({ (s.kill d g).set d g cs with gen:=fun d'=>st.gen d'+1 }:St)=insSt st d g cs:=by
   refine st_eq (fun u => ?_) (fun d' g' => ?_) (fun d'=>rfl) (fun d' g' => ?_) (fun u => ?_)
   ·show (s.tmp u).kill d g=(st.tmp u).kill d g
    rw[etmp]
   ·show (if d'=d/\g'=g then some cs else s.obj d' g')=(if d'=d/\g'=g then some cs else st.obj d' g')
    by_cases he:d'=d/\g'=g
    ·rw[if_pos he,if_pos he]
    ·rw[if_neg he,if_neg he,eobj,if_neg he]
   ·show (s.hob d' g').map _=(st.hob d' g').map _
    rw[ehob]
   ·show (s.up u).kill d g=(st.up u).kill d g
    rw[eup]
  rw[e]at h1
  exact⟨β1,h1,ht,hgen⟩
 ·have hos:(st.obj d g).isSome=true:=by rw[ho];rfl
  have hne : ¬(d=D/\g=st.gen D):=fun e=>by
   have:=h0.gens d g hos
   obtain⟨rfl,e2⟩:=e
   omega
  have hko:(s.kill d g).obj d g=some cs0:=by
   show s.obj d g=_
   rw[eobj,if_neg hne];exact ho
  have hkO:(s.kill d g).obj D (st.gen D)=some cs:=by
   show s.obj D (st.gen D)=_
   rw[eobj,if_pos ⟨rfl,rfl⟩]
  have hid : ∀ {x:TV} {d' g':Nat},(∀d' g',x.id=some (d',g')->g'<st.gen d')->(x.kill d g).id=some (d',g') -> ¬(d'=d/\g'=g) /\ ¬(d'=D/\g'=st.gen D):=by
   intro x d' g' hx hk
   obtain⟨h1,h2⟩:=kill_id hk
   refine⟨h2,fun e => ?_⟩
   have:=hx d' g' h1
   obtain⟨rfl,rfl⟩:=e
   exact absurd this (Nat.lt_irrefl _)
  have h1:=((hr.kill d g).rename hd hD hne hko hkO (fun t d' g' e=>hid (fun d1 g1 e1=>h0.ids t d1 g1 e1) (by rw[<- etmp];exact e)) (fun t d' g' e=>hid (fun d1 g1 e1=>h0.uids t d1 g1 e1) (by rw[<- eup];exact e))
   (fun d1 g1 ts i x d' g' e1 e2 e3=>by
    have e1:(s.hob d1 g1).map (fun ts=>ts.map fun t=>t.kill d g)=some ts:=e1
    rw[ehob]at e1
    obtain⟨ts0,hts0,rfl⟩:=map_some e1
    rw[List.getElem?_map]at e2
    obtain⟨x0,hx0,rfl⟩:=map_some e2
    obtain⟨_,_,cs9,ty9,_,hall⟩:=h0.hobs d1 g1 ts0 hts0
    obtain⟨_,_,_,_,hidx⟩:=hall i x0 hx0
    exact hid hidx e3)).genUp (gen':=fun d'=>st.gen d'+1) (fun d'=>by
     show s.gen d'<=_
     rw[egen]
     split
     ·rename_i e;rw[e];exact Nat.le_refl _
     ·exact Nat.le_succ _)
  have hnone:st.obj D (st.gen D)=none:=by
   cases e:st.obj D (st.gen D) with
   |none=>rfl
   |some x=>exact absurd (h0.gens D (st.gen D) (by rw[e];rfl)) (Nat.lt_irrefl _)
  have e:({ (s.kill d g) with obj:=fun d' g'=>if d'=d/\g'=g then some cs else if d'=D/\g'=st.gen D then none else (s.kill d g).obj d' g',gen:=fun d'=>st.gen d'+1 }:St)=insSt st d g cs:=by
   refine st_eq (fun u => ?_) (fun d' g' => ?_) (fun d'=>rfl) (fun d' g' => ?_) (fun u => ?_)
   ·show (s.tmp u).kill d g=(st.tmp u).kill d g
    rw[etmp]
   ·show (if d'=d/\g'=g then some cs else if d'=D/\g'=st.gen D then none else s.obj d' g')=(if d'=d/\g'=g then some cs else st.obj d' g')
    by_cases he:d'=d/\g'=g
    ·rw[if_pos he,if_pos he]
    ·rw[if_neg he,if_neg he]
     by_cases he2:d'=D/\g'=st.gen D
     ·rw[if_pos he2];obtain⟨rfl,rfl⟩:=he2;exact hnone.symm
     ·rw[if_neg he2,eobj,if_neg he2]
   ·show (s.hob d' g').map _=(st.hob d' g').map _
    rw[ehob]
   ·show (s.up u).kill d g=(st.up u).kill d g
    rw[eup]
  rw[e]at h1
  refine⟨_,h1,?_,hgen⟩
  obtain⟨cap,cs',ty',a1,a2,a3,a4⟩:=ht
  exact⟨cap,cs',ty',by rw[upd_self];exact a1,a2,by rw[upd_self];exact a3,a4⟩
theorem leaves_in {C:Cx} {G:List (Nat×Value)} (hZ:Z.gl=G) (hC:TabOk C.P G C.X) (hgood:Good C.P C.good) {f:FuncId} {d g n m:Nat} {vs:List TV} {cs cs0:List SV}
  (hd:d<N0) (ho:st.obj d g=some cs0)
  (hw : ∀c,n<=c -> ∃k s t,callN C.P C.X C.mu C.good k f [.st false st (.rfc d g 2 0 n c::vs)]=some (.st s t,[])/\InsLeaves st d g m cs s t)
  {vals:Array Value} (hrel:Rel w0 F I Z N β st a w) (hsz:vals.size=vs.length+1)
  (hv : ∀ (i:Nat) (v:TV),(TV.ref d g 2 0 n::vs)[i]?=some v->RepT β w (Mut F β st) (vals.getD i undef) v /\ ∀d g,v.id=some (d,g)->g<st.gen d) :
  Invk C.P f vals w fun e w' => ∃v,e = .returned v/\InRet w0 F I Z N st a w' false v (.st (insSt st d g cs) (.ref d g 2 0 m)):=by
 obtain⟨⟨cap,us,ty,h1,h2,h3,h4⟩,hid⟩:=hv 0 _ rfl
 obtain⟨k,s,t,hc,hl⟩:=hw cap h2
 refine((callN_all hC hgood C.mu k).2.1 f false st _ _ _ hc w0 F I Z N β a w vals hZ hrel (by simpa using hsz) (fun i v hi => ?_)).mono ?_
 ·cases i with
  |zero=>
   simp only[List.getElem?_cons_zero,Option.some.injEq]at hi
   subst hi
   exact⟨⟨us,ty,h1,h2,h3,h4⟩,fun d' g' e=>hid d' g' e⟩
  |succ i=>exact hv (i+1) v hi
 ·rintro e w' ⟨v,rfl,_,β1,hr,ht,_⟩
  obtain⟨β',a1,a2,a3⟩:=hl.to hrel hd ho hr ht
  exact⟨v,rfl,rfl,β',a1,a2,a3⟩
end
end Go.Ev
namespace Go.Proofs.YtcfjiolldehegaaGreatDoor
open Go.Ev
noncomputable abbrev muF0 (f:Nat):Bool:=Nat.beq f 323
noncomputable abbrev muF1 (f:Nat):Bool:=Bool.rec (muF0 f) true (Nat.beq f 183)
noncomputable abbrev muF2 (f:Nat):Bool:=Bool.rec (muF1 f) true (Nat.beq f 160)
noncomputable abbrev muF3 (f:Nat):Bool:=Bool.rec (muF2 f) true (Nat.beq f 231)
noncomputable abbrev muF4 (f:Nat):Bool:=Bool.rec (muF3 f) true (Nat.beq f 230)
noncomputable abbrev muF5 (f:Nat):Bool:=Bool.rec (muF4 f) true (Nat.beq f 161)
noncomputable abbrev muF6 (f:Nat):Bool:=Bool.rec (muF5 f) true (Nat.beq f 184)
noncomputable abbrev muF7 (f:Nat):Bool:=Bool.rec (Bool.rec (muF6 f) true (Nat.beq f (1000000+68))) true (Nat.beq f 68)
noncomputable abbrev muF8 (f:Nat):Bool:=Bool.rec (Bool.rec (muF7 f) true (Nat.beq f (1000000+102))) true (Nat.beq f 102)
noncomputable abbrev muF9 (f:Nat):Bool:=Bool.rec (Bool.rec (muF8 f) true (Nat.beq f (1000000+20))) true (Nat.beq f 20)
noncomputable abbrev muF10 (f:Nat):Bool:=Bool.rec (Bool.rec (muF9 f) true (Nat.beq f (1000000+36))) true (Nat.beq f 36)
noncomputable abbrev muF11 (f:Nat):Bool:=Bool.rec (Bool.rec (muF10 f) true (Nat.beq f (1000000+57))) true (Nat.beq f 57)
noncomputable abbrev muF12 (f:Nat):Bool:=Bool.rec (Bool.rec (muF11 f) true (Nat.beq f (1000000+39))) true (Nat.beq f 39)
noncomputable abbrev muF13 (f:Nat):Bool:=Bool.rec (Bool.rec (muF12 f) true (Nat.beq f (1000000+43))) true (Nat.beq f 43)
noncomputable abbrev muF14 (f:Nat):Bool:=Bool.rec (Bool.rec (muF13 f) true (Nat.beq f (1000000+103))) true (Nat.beq f 103)
noncomputable abbrev muF15 (f:Nat):Bool:=Bool.rec (Bool.rec (muF14 f) true (Nat.beq f (1000000+128))) true (Nat.beq f 128)
noncomputable abbrev muF16 (f:Nat):Bool:=Bool.rec (Bool.rec (muF15 f) true (Nat.beq f (1000000+104))) true (Nat.beq f 104)
noncomputable abbrev muF17 (f:Nat):Bool:=muF16 f
noncomputable abbrev muF18 (f:Nat):Bool:=muF17 f
noncomputable abbrev muF19 (f:Nat):Bool:=muF18 f
noncomputable abbrev muF20 (f:Nat):Bool:=muF19 f
noncomputable abbrev muF21 (f:Nat):Bool:=muF20 f
noncomputable abbrev muF22 (f:Nat):Bool:=muF21 f
noncomputable abbrev muF23 (f:Nat):Bool:=muF22 f
noncomputable abbrev muF24 (f:Nat):Bool:=muF23 f
noncomputable abbrev muF25 (f:Nat):Bool:=Bool.rec (Bool.rec (muF24 f) true (Nat.beq f (1000000+213))) true (Nat.beq f 213)
noncomputable abbrev muF26 (f:Nat):Bool:=Bool.rec (Bool.rec (muF25 f) true (Nat.beq f (1000000+11))) true (Nat.beq f 11)
noncomputable abbrev muF27 (f:Nat):Bool:=Bool.rec (Bool.rec (muF26 f) true (Nat.beq f (1000000+18))) true (Nat.beq f 18)
noncomputable abbrev muF28 (f:Nat):Bool:=Bool.rec (Bool.rec (muF27 f) true (Nat.beq f (1000000+27))) true (Nat.beq f 27)
noncomputable abbrev muF29 (f:Nat):Bool:=Bool.rec (Bool.rec (muF28 f) true (Nat.beq f (1000000+55))) true (Nat.beq f 55)
noncomputable abbrev muF30 (f:Nat):Bool:=Bool.rec (Bool.rec (muF29 f) true (Nat.beq f (2000000+55))) true (Nat.beq f (2000000+36))
noncomputable abbrev muF31 (f:Nat):Bool:=Bool.rec (Bool.rec (muF30 f) true (Nat.beq f (2000000+74))) true (Nat.beq f 74)
noncomputable abbrev muF32 (f:Nat):Bool:=muF31 f
noncomputable abbrev muF (f:Nat):Bool:=muF32 f
theorem muF_at0:muF 323=true:=by kernel_rfl
attribute [go_sem] muF_at0
theorem muF_at1:muF 183=true:=by kernel_rfl
attribute [go_sem] muF_at1
theorem muF_at2:muF 160=true:=by kernel_rfl
attribute [go_sem] muF_at2
theorem muF_at3:muF 231=true:=by kernel_rfl
attribute [go_sem] muF_at3
theorem muF_at4:muF 230=true:=by kernel_rfl
attribute [go_sem] muF_at4
theorem muF_at5:muF 161=true:=by kernel_rfl
attribute [go_sem] muF_at5
theorem muF_at6:muF 184=true:=by kernel_rfl
attribute [go_sem] muF_at6
theorem muF_at7:muF 68=true:=by kernel_rfl
theorem muF_in7:muF (1000000+68)=true:=by kernel_rfl
attribute [go_sem] muF_at7 muF_in7
theorem muF_at8:muF 102=true:=by kernel_rfl
theorem muF_in8:muF (1000000+102)=true:=by kernel_rfl
attribute [go_sem] muF_at8 muF_in8
theorem muF_at9:muF 20=true:=by kernel_rfl
theorem muF_in9:muF (1000000+20)=true:=by kernel_rfl
attribute [go_sem] muF_at9 muF_in9
theorem muF_at10:muF 36=true:=by kernel_rfl
theorem muF_in10:muF (1000000+36)=true:=by kernel_rfl
attribute [go_sem] muF_at10 muF_in10
theorem muF_at11:muF 57=true:=by kernel_rfl
theorem muF_in11:muF (1000000+57)=true:=by kernel_rfl
attribute [go_sem] muF_at11 muF_in11
theorem muF_at12:muF 39=true:=by kernel_rfl
theorem muF_in12:muF (1000000+39)=true:=by kernel_rfl
attribute [go_sem] muF_at12 muF_in12
theorem muF_at13:muF 43=true:=by kernel_rfl
theorem muF_in13:muF (1000000+43)=true:=by kernel_rfl
attribute [go_sem] muF_at13 muF_in13
theorem muF_at14:muF 103=true:=by kernel_rfl
theorem muF_in14:muF (1000000+103)=true:=by kernel_rfl
attribute [go_sem] muF_at14 muF_in14
theorem muF_at15:muF 128=true:=by kernel_rfl
theorem muF_in15:muF (1000000+128)=true:=by kernel_rfl
attribute [go_sem] muF_at15 muF_in15
theorem muF_at16:muF 104=true:=by kernel_rfl
theorem muF_in16:muF (1000000+104)=true:=by kernel_rfl
attribute [go_sem] muF_at16 muF_in16
theorem muF_at25:muF 213=true:=by kernel_rfl
theorem muF_in25:muF (1000000+213)=true:=by kernel_rfl
attribute [go_sem] muF_at25 muF_in25
theorem muF_at26:muF 11=true:=by kernel_rfl
theorem muF_in26:muF (1000000+11)=true:=by kernel_rfl
attribute [go_sem] muF_at26 muF_in26
theorem muF_at27:muF 18=true:=by kernel_rfl
theorem muF_in27:muF (1000000+18)=true:=by kernel_rfl
attribute [go_sem] muF_at27 muF_in27
theorem muF_at28:muF 27=true:=by kernel_rfl
theorem muF_in28:muF (1000000+27)=true:=by kernel_rfl
attribute [go_sem] muF_at28 muF_in28
theorem muF_at29:muF 55=true:=by kernel_rfl
theorem muF_in29:muF (1000000+55)=true:=by kernel_rfl
attribute [go_sem] muF_at29 muF_in29
theorem muF_at31:muF 74=true:=by kernel_rfl
attribute [go_sem] muF_at31
def GMet (G:List (Nat×Value)):Prop := ∃m:Int,(2,Value.int .i64 m)∈G
noncomputable def xS:Callf:=fun g args=>
 if Nat.beq g 205 then xIndex args else
 if Nat.beq g 303 then xCmp args else
 if Nat.beq g 328 then xCount args else
 if Nat.beq g 71 then xTrim args else
 if Nat.beq g 227 then xTrimLeft args else
 if Nat.beq g 19 then xJoin args else
 if Nat.beq g 72 then xAtoi args else
 if Nat.beq g 34 then xCut args else
 if Nat.beq g 14 then xFields 15 args else
 cloneX 259 g args
theorem xS_none (f:FuncId) (k:Bool) (st:St) (vs:List TV):xS f [.st k st vs]=none:=by
 have no : ∀ {c:Prop} [Decidable c] {a b:Option (Ret×List (Option (List SV)))},a=none->b=none->(if c then a else b)=none:=fun h1 h2=>by split<;>assumption
 unfold xS cloneX
 repeat (refine no rfl ?_)
 rfl
noncomputable def CB:Cx:={ P:=Tryz.prog,X:=xS,mu:=muF,good:=good }
theorem CB_P:CB.P=Tryz.prog:=_root_.id rfl
theorem CB_mu (f:Nat):CB.mu f=muF f:=_root_.id rfl
attribute [go_sem] CB_P CB_mu
noncomputable def xT:Callf:=fun g args=>
 if Nat.beq g 280 then xGenSplit args else
 xS g args
noncomputable def CZ:Cx:={ P:=Tryz.prog,X:=xT,mu:=muF,good:=good }
theorem CZ_P:CZ.P=Tryz.prog:=_root_.id rfl
theorem CZ_mu (f:Nat):CZ.mu f=muF f:=_root_.id rfl
noncomputable def XL:Callf:=fun g args=>if Nat.beq g 288 then (match args with
  | [.sv s,.sv (.int .u64 (.ofNat k)),.sv (.int .i64 (.ofNat n))]=>match decV s with
   |some xs=>if k<32/\xs.length<=n/\n<=xs.length+1 then some (.row ((limN n (wth xs*2^k)).map limb) 1 0 n,[none,none,none]) else none
   |none=>none
  |_=>none) else
 if Nat.beq g 212 then xSplit args else
 if Nat.beq g 128 then xIns args else
 if Nat.beq g 104 then xDel args else
 CZ.X g args
noncomputable def CX:Cx:={ CZ with X:=XL }
theorem CX_P:CX.P=Tryz.prog:=_root_.id rfl
theorem CX_mu (f:Nat):CX.mu f=muF f:=_root_.id rfl
attribute [go_sem] CZ_P CZ_mu CX_P CX_mu Nat.reduceBEq
end Go.Proofs.YtcfjiolldehegaaGreatDoor
namespace Go.Proofs
open Go.Shelf
def Tryz.lays156_ren:Go.Shelf.Ren:=⟨fun|156=>19|165=>37|166=>9|169=>12|240=>16|241=>69|276=>32|277=>130|n=>n,fun|31=>36|9=>9|3=>3|4=>4|0=>0|20=>20|72=>32|76=>40|70=>29|37=>30|75=>39|127=>57|164=>65|5=>5|80=>45|n=>n,fun|n=>n⟩
theorem Tryz.lays156:Go.Proofs.Lays.n156 Tryz.prog Tryz.lays156_ren:={
 mixed:=by kernel_rfl
 f156:=Tryz.func19.trans (congrArg some (by kernel_rfl))
 f165:=Tryz.func37.trans (congrArg some (by kernel_rfl))
 f166:=Tryz.func9.trans (congrArg some (by kernel_rfl))
 f169:=Tryz.func12.trans (congrArg some (by kernel_rfl))
 f240:=Tryz.func16.trans (congrArg some (by kernel_rfl))
 f241:=Tryz.func69.trans (congrArg some (by kernel_rfl))
 f276:=Tryz.func32.trans (congrArg some (by kernel_rfl))
 f277:=Tryz.func130.trans (congrArg some (by kernel_rfl))
 t0:=Tryz.underlying0
 a0:=Tryz.isAgg0
 z0:=Tryz.sizeOf0
 v0:=Tryz.zeroValue0
 t3:=Tryz.underlying3
 a3:=Tryz.isAgg3
 z3:=Tryz.sizeOf3
 v3:=Tryz.zeroValue3
 t4:=Tryz.underlying4
 a4:=Tryz.isAgg4
 z4:=Tryz.sizeOf4
 v4:=Tryz.zeroValue4
 t9:=Tryz.underlying9
 a9:=Tryz.isAgg9
 z9:=Tryz.sizeOf9
 v9:=Tryz.zeroValue9
 t20:=Tryz.underlying20
 a20:=Tryz.isAgg20
 z20:=Tryz.sizeOf20
 v20:=Tryz.zeroValue20
 t31:=Tryz.underlying36
 a31:=Tryz.isAgg36
 z31:=Tryz.sizeOf36
 v31:=Tryz.zeroValue36
 t37:=Tryz.underlying30
 a37:=Tryz.isAgg30
 z37:=Tryz.sizeOf30
 v37:=Tryz.zeroValue30
 t70:=Tryz.underlying29
 a70:=Tryz.isAgg29
 z70:=Tryz.sizeOf29
 v70:=Tryz.zeroValue29
 t72:=Tryz.underlying32
 a72:=Tryz.isAgg32
 z72:=Tryz.sizeOf32
 v72:=Tryz.zeroValue32
 t75:=Tryz.underlying39
 a75:=Tryz.isAgg39
 z75:=Tryz.sizeOf39
 v75:=Tryz.zeroValue39
 t76:=Tryz.underlying40
 a76:=Tryz.isAgg40
 z76:=Tryz.sizeOf40
 v76:=Tryz.zeroValue40
 t127:=Tryz.underlying57
 a127:=Tryz.isAgg57
 z127:=Tryz.sizeOf57
 v127:=Tryz.zeroValue57
 t164:=Tryz.underlying65
 a164:=Tryz.isAgg65
 z164:=Tryz.sizeOf65
 v164:=Tryz.zeroValue65 }
theorem Tryz.Builder_Extra_156:Builder.Extra Tryz.prog Tryz.lays156_ren:={
 sizeBuilder:=by kernel_rfl
 liesBuilder:=by kernel_rfl
 t5:=Tryz.underlying5
 a5:=Tryz.isAgg5
 z5:=Tryz.sizeOf5
 v5:=Tryz.zeroValue5
 infoByte:=by kernel_rfl
 cellsByte:=by kernel_rfl
 sizeByte:=by kernel_rfl
 neB5:=by decide }
def Tryz.lays160_ren:Go.Shelf.Ren:=⟨fun|160=>71|232=>133|231=>132|227=>134|234=>136|233=>135|236=>138|235=>137|228=>216|271=>218|151=>217|197=>30|120=>283|152=>282|260=>62|137=>126|119=>312|224=>120|225=>119|217=>118|266=>205|n=>n,fun|9=>9|4=>4|3=>3|5=>5|117=>182|116=>181|0=>0|124=>185|21=>21|105=>59|46=>166|119=>165|139=>169|138=>168|n=>n,fun|3=>0|4=>1|n=>n⟩
theorem Tryz.lays160:Go.Proofs.Lays.n160 Tryz.prog Tryz.lays160_ren:={
 mixed:=by kernel_rfl
 f119:=Tryz.func312.trans (congrArg some (by kernel_rfl))
 f120:=Tryz.func283.trans (congrArg some (by kernel_rfl))
 f137:=Tryz.func126.trans (congrArg some (by kernel_rfl))
 f151:=Tryz.func217.trans (congrArg some (by kernel_rfl))
 f152:=Tryz.func282.trans (congrArg some (by kernel_rfl))
 f160:=Tryz.func71.trans (congrArg some (by kernel_rfl))
 f197:=Tryz.func30.trans (congrArg some (by kernel_rfl))
 f217:=Tryz.func118.trans (congrArg some (by kernel_rfl))
 f224:=Tryz.func120.trans (congrArg some (by kernel_rfl))
 f225:=Tryz.func119.trans (congrArg some (by kernel_rfl))
 f227:=Tryz.func134.trans (congrArg some (by kernel_rfl))
 f228:=Tryz.func216.trans (congrArg some (by kernel_rfl))
 f231:=Tryz.func132.trans (congrArg some (by kernel_rfl))
 f232:=Tryz.func133.trans (congrArg some (by kernel_rfl))
 f233:=Tryz.func135.trans (congrArg some (by kernel_rfl))
 f234:=Tryz.func136.trans (congrArg some (by kernel_rfl))
 f235:=Tryz.func137.trans (congrArg some (by kernel_rfl))
 f236:=Tryz.func138.trans (congrArg some (by kernel_rfl))
 f260:=Tryz.func62.trans (congrArg some (by kernel_rfl))
 f266:=Tryz.func205.trans (congrArg some (by kernel_rfl))
 f271:=Tryz.func218.trans (congrArg some (by kernel_rfl))
 t0:=Tryz.underlying0
 a0:=Tryz.isAgg0
 z0:=Tryz.sizeOf0
 v0:=Tryz.zeroValue0
 t3:=Tryz.underlying3
 a3:=Tryz.isAgg3
 z3:=Tryz.sizeOf3
 v3:=Tryz.zeroValue3
 t4:=Tryz.underlying4
 a4:=Tryz.isAgg4
 z4:=Tryz.sizeOf4
 v4:=Tryz.zeroValue4
 t5:=Tryz.underlying5
 a5:=Tryz.isAgg5
 z5:=Tryz.sizeOf5
 v5:=Tryz.zeroValue5
 t9:=Tryz.underlying9
 a9:=Tryz.isAgg9
 z9:=Tryz.sizeOf9
 v9:=Tryz.zeroValue9
 t21:=Tryz.underlying21
 a21:=Tryz.isAgg21
 z21:=Tryz.sizeOf21
 v21:=Tryz.zeroValue21
 t46:=Tryz.underlying166
 a46:=Tryz.isAgg166
 z46:=Tryz.sizeOf166
 v46:=Tryz.zeroValue166
 t105:=Tryz.underlying59
 a105:=Tryz.isAgg59
 z105:=Tryz.sizeOf59
 v105:=Tryz.zeroValue59
 t116:=Tryz.underlying181
 a116:=Tryz.isAgg181
 z116:=Tryz.sizeOf181
 t117:=Tryz.underlying182
 a117:=Tryz.isAgg182
 z117:=Tryz.sizeOf182
 v117:=Tryz.zeroValue182
 t119:=Tryz.underlying165
 a119:=Tryz.isAgg165
 z119:=Tryz.sizeOf165
 t124:=Tryz.underlying185
 a124:=Tryz.isAgg185
 z124:=Tryz.sizeOf185
 v124:=Tryz.zeroValue185
 t138:=Tryz.underlying168
 a138:=Tryz.isAgg168
 z138:=Tryz.sizeOf168
 v138:=Tryz.zeroValue168
 t139:=Tryz.underlying169
 a139:=Tryz.isAgg169
 z139:=Tryz.sizeOf169
 v139:=Tryz.zeroValue169
 g3:=by kernel_rfl
 g4:=by kernel_rfl }
def Tryz.lays161_ren:Go.Shelf.Ren:=⟨fun|161=>227|231=>132|227=>134|233=>135|235=>137|228=>216|197=>30|151=>217|260=>62|152=>282|137=>126|119=>312|224=>120|225=>119|217=>118|266=>205|n=>n,fun|9=>9|4=>4|3=>3|5=>5|117=>182|116=>181|0=>0|124=>185|105=>59|21=>21|119=>165|46=>166|139=>169|138=>168|n=>n,fun|3=>0|4=>1|n=>n⟩
theorem Tryz.lays161:Go.Proofs.Lays.n161 Tryz.prog Tryz.lays161_ren:={
 mixed:=by kernel_rfl
 f119:=Tryz.func312.trans (congrArg some (by kernel_rfl))
 f137:=Tryz.func126.trans (congrArg some (by kernel_rfl))
 f151:=Tryz.func217.trans (congrArg some (by kernel_rfl))
 f152:=Tryz.func282.trans (congrArg some (by kernel_rfl))
 f161:=Tryz.func227.trans (congrArg some (by kernel_rfl))
 f197:=Tryz.func30.trans (congrArg some (by kernel_rfl))
 f217:=Tryz.func118.trans (congrArg some (by kernel_rfl))
 f224:=Tryz.func120.trans (congrArg some (by kernel_rfl))
 f225:=Tryz.func119.trans (congrArg some (by kernel_rfl))
 f227:=Tryz.func134.trans (congrArg some (by kernel_rfl))
 f228:=Tryz.func216.trans (congrArg some (by kernel_rfl))
 f231:=Tryz.func132.trans (congrArg some (by kernel_rfl))
 f233:=Tryz.func135.trans (congrArg some (by kernel_rfl))
 f235:=Tryz.func137.trans (congrArg some (by kernel_rfl))
 f260:=Tryz.func62.trans (congrArg some (by kernel_rfl))
 f266:=Tryz.func205.trans (congrArg some (by kernel_rfl))
 t0:=Tryz.underlying0
 a0:=Tryz.isAgg0
 z0:=Tryz.sizeOf0
 v0:=Tryz.zeroValue0
 t3:=Tryz.underlying3
 a3:=Tryz.isAgg3
 z3:=Tryz.sizeOf3
 v3:=Tryz.zeroValue3
 t4:=Tryz.underlying4
 a4:=Tryz.isAgg4
 z4:=Tryz.sizeOf4
 v4:=Tryz.zeroValue4
 t5:=Tryz.underlying5
 a5:=Tryz.isAgg5
 z5:=Tryz.sizeOf5
 v5:=Tryz.zeroValue5
 t9:=Tryz.underlying9
 a9:=Tryz.isAgg9
 z9:=Tryz.sizeOf9
 v9:=Tryz.zeroValue9
 t21:=Tryz.underlying21
 a21:=Tryz.isAgg21
 z21:=Tryz.sizeOf21
 v21:=Tryz.zeroValue21
 t46:=Tryz.underlying166
 a46:=Tryz.isAgg166
 z46:=Tryz.sizeOf166
 v46:=Tryz.zeroValue166
 t105:=Tryz.underlying59
 a105:=Tryz.isAgg59
 z105:=Tryz.sizeOf59
 v105:=Tryz.zeroValue59
 t116:=Tryz.underlying181
 a116:=Tryz.isAgg181
 z116:=Tryz.sizeOf181
 t117:=Tryz.underlying182
 a117:=Tryz.isAgg182
 z117:=Tryz.sizeOf182
 v117:=Tryz.zeroValue182
 t119:=Tryz.underlying165
 a119:=Tryz.isAgg165
 z119:=Tryz.sizeOf165
 t124:=Tryz.underlying185
 a124:=Tryz.isAgg185
 z124:=Tryz.sizeOf185
 v124:=Tryz.zeroValue185
 t138:=Tryz.underlying168
 a138:=Tryz.isAgg168
 z138:=Tryz.sizeOf168
 v138:=Tryz.zeroValue168
 t139:=Tryz.underlying169
 a139:=Tryz.isAgg169
 z139:=Tryz.sizeOf169
 v139:=Tryz.zeroValue169
 g3:=by kernel_rfl
 g4:=by kernel_rfl }
def Tryz.lays172_ren:Go.Shelf.Ren:=⟨fun|172=>72|244=>139|245=>140|247=>219|279=>220|280=>221|281=>222|282=>223|287=>284|316=>285|171=>17|205=>286|321=>313|322=>314|243=>33|246=>64|283=>122|284=>123|285=>124|286=>125|129=>208|317=>207|318=>209|319=>210|320=>211|337=>278|338=>279|n=>n,fun|9=>9|3=>3|75=>39|76=>40|4=>4|5=>5|167=>240|37=>30|0=>0|85=>241|2=>2|168=>243|53=>134|175=>278|46=>166|210=>281|127=>57|145=>307|143=>305|21=>21|171=>171|173=>174|212=>232|51=>189|20=>20|213=>233|232=>300|233=>301|80=>45|n=>n,fun|15=>4|16=>5|17=>3|18=>7|19=>8|n=>n⟩
theorem Tryz.lays172:Go.Proofs.Lays.n172 Tryz.prog Tryz.lays172_ren:={
 mixed:=by kernel_rfl
 f129:=Tryz.func208.trans (congrArg some (by kernel_rfl))
 f171:=Tryz.func17.trans (congrArg some (by kernel_rfl))
 f172:=Tryz.func72.trans (congrArg some (by kernel_rfl))
 f205:=Tryz.func286.trans (congrArg some (by kernel_rfl))
 f243:=Tryz.func33.trans (congrArg some (by kernel_rfl))
 f244:=Tryz.func139.trans (congrArg some (by kernel_rfl))
 f245:=Tryz.func140.trans (congrArg some (by kernel_rfl))
 f246:=Tryz.func64.trans (congrArg some (by kernel_rfl))
 f247:=Tryz.func219.trans (congrArg some (by kernel_rfl))
 f279:=Tryz.func220.trans (congrArg some (by kernel_rfl))
 f280:=Tryz.func221.trans (congrArg some (by kernel_rfl))
 f281:=Tryz.func222.trans (congrArg some (by kernel_rfl))
 f282:=Tryz.func223.trans (congrArg some (by kernel_rfl))
 f283:=Tryz.func122.trans (congrArg some (by kernel_rfl))
 f284:=Tryz.func123.trans (congrArg some (by kernel_rfl))
 f285:=Tryz.func124.trans (congrArg some (by kernel_rfl))
 f286:=Tryz.func125.trans (congrArg some (by kernel_rfl))
 f287:=Tryz.func284.trans (congrArg some (by kernel_rfl))
 f316:=Tryz.func285.trans (congrArg some (by kernel_rfl))
 f317:=Tryz.func207.trans (congrArg some (by kernel_rfl))
 f318:=Tryz.func209.trans (congrArg some (by kernel_rfl))
 f319:=Tryz.func210.trans (congrArg some (by kernel_rfl))
 f320:=Tryz.func211.trans (congrArg some (by kernel_rfl))
 f321:=Tryz.func313.trans (congrArg some (by kernel_rfl))
 f322:=Tryz.func314.trans (congrArg some (by kernel_rfl))
 f337:=Tryz.func278.trans (congrArg some (by kernel_rfl))
 f338:=Tryz.func279.trans (congrArg some (by kernel_rfl))
 t0:=Tryz.underlying0
 a0:=Tryz.isAgg0
 z0:=Tryz.sizeOf0
 v0:=Tryz.zeroValue0
 t2:=Tryz.underlying2
 a2:=Tryz.isAgg2
 z2:=Tryz.sizeOf2
 v2:=Tryz.zeroValue2
 t3:=Tryz.underlying3
 a3:=Tryz.isAgg3
 z3:=Tryz.sizeOf3
 v3:=Tryz.zeroValue3
 t4:=Tryz.underlying4
 a4:=Tryz.isAgg4
 z4:=Tryz.sizeOf4
 v4:=Tryz.zeroValue4
 t5:=Tryz.underlying5
 a5:=Tryz.isAgg5
 z5:=Tryz.sizeOf5
 v5:=Tryz.zeroValue5
 t9:=Tryz.underlying9
 a9:=Tryz.isAgg9
 z9:=Tryz.sizeOf9
 v9:=Tryz.zeroValue9
 t20:=Tryz.underlying20
 a20:=Tryz.isAgg20
 z20:=Tryz.sizeOf20
 v20:=Tryz.zeroValue20
 t21:=Tryz.underlying21
 a21:=Tryz.isAgg21
 z21:=Tryz.sizeOf21
 v21:=Tryz.zeroValue21
 t37:=Tryz.underlying30
 a37:=Tryz.isAgg30
 z37:=Tryz.sizeOf30
 v37:=Tryz.zeroValue30
 t46:=Tryz.underlying166
 a46:=Tryz.isAgg166
 z46:=Tryz.sizeOf166
 v46:=Tryz.zeroValue166
 t51:=Tryz.underlying189
 a51:=Tryz.isAgg189
 z51:=Tryz.sizeOf189
 v51:=Tryz.zeroValue189
 t53:=Tryz.underlying134
 a53:=Tryz.isAgg134
 z53:=Tryz.sizeOf134
 v53:=Tryz.zeroValue134
 t75:=Tryz.underlying39
 a75:=Tryz.isAgg39
 z75:=Tryz.sizeOf39
 v75:=Tryz.zeroValue39
 t76:=Tryz.underlying40
 a76:=Tryz.isAgg40
 z76:=Tryz.sizeOf40
 v76:=Tryz.zeroValue40
 t85:=Tryz.underlying241
 a85:=Tryz.isAgg241
 z85:=Tryz.sizeOf241
 v85:=Tryz.zeroValue241
 t127:=Tryz.underlying57
 a127:=Tryz.isAgg57
 z127:=Tryz.sizeOf57
 v127:=Tryz.zeroValue57
 t143:=Tryz.underlying305
 a143:=Tryz.isAgg305
 z143:=Tryz.sizeOf305
 v143:=Tryz.zeroValue305
 t145:=Tryz.underlying307
 a145:=Tryz.isAgg307
 z145:=Tryz.sizeOf307
 v145:=Tryz.zeroValue307
 t167:=Tryz.underlying240
 a167:=Tryz.isAgg240
 z167:=Tryz.sizeOf240
 v167:=Tryz.zeroValue240
 t168:=Tryz.underlying243
 a168:=Tryz.isAgg243
 z168:=Tryz.sizeOf243
 v168:=Tryz.zeroValue243
 t171:=Tryz.underlying171
 a171:=Tryz.isAgg171
 z171:=Tryz.sizeOf171
 v171:=Tryz.zeroValue171
 t173:=Tryz.underlying174
 a173:=Tryz.isAgg174
 z173:=Tryz.sizeOf174
 v173:=Tryz.zeroValue174
 t175:=Tryz.underlying278
 a175:=Tryz.isAgg278
 z175:=Tryz.sizeOf278
 v175:=Tryz.zeroValue278
 t210:=Tryz.underlying281
 a210:=Tryz.isAgg281
 z210:=Tryz.sizeOf281
 v210:=Tryz.zeroValue281
 t212:=Tryz.underlying232
 a212:=Tryz.isAgg232
 z212:=Tryz.sizeOf232
 v212:=Tryz.zeroValue232
 t213:=Tryz.underlying233
 a213:=Tryz.isAgg233
 z213:=Tryz.sizeOf233
 t232:=Tryz.underlying300
 a232:=Tryz.isAgg300
 z232:=Tryz.sizeOf300
 v232:=Tryz.zeroValue300
 t233:=Tryz.underlying301
 a233:=Tryz.isAgg301
 z233:=Tryz.sizeOf301
 v233:=Tryz.zeroValue301
 g15:=by kernel_rfl
 g16:=by kernel_rfl
 g17:=by kernel_rfl
 g18:=by kernel_rfl
 g19:=by kernel_rfl }
def Tryz.lays145_ren:Go.Shelf.Ren:=⟨fun|145=>34|220=>65|219=>63|217=>118|225=>119|224=>120|267=>121|266=>205|314=>206|n=>n,fun|9=>9|4=>4|59=>67|3=>3|5=>5|46=>166|146=>190|51=>189|n=>n,fun|1=>2|n=>n⟩
theorem Tryz.lays145:Go.Proofs.Lays.n145 Tryz.prog Tryz.lays145_ren:={
 mixed:=by kernel_rfl
 f145:=Tryz.func34.trans (congrArg some (by kernel_rfl))
 f217:=Tryz.func118.trans (congrArg some (by kernel_rfl))
 f219:=Tryz.func63.trans (congrArg some (by kernel_rfl))
 f220:=Tryz.func65.trans (congrArg some (by kernel_rfl))
 f224:=Tryz.func120.trans (congrArg some (by kernel_rfl))
 f225:=Tryz.func119.trans (congrArg some (by kernel_rfl))
 f266:=Tryz.func205.trans (congrArg some (by kernel_rfl))
 f267:=Tryz.func121.trans (congrArg some (by kernel_rfl))
 f314:=Tryz.func206.trans (congrArg some (by kernel_rfl))
 t3:=Tryz.underlying3
 a3:=Tryz.isAgg3
 z3:=Tryz.sizeOf3
 v3:=Tryz.zeroValue3
 t4:=Tryz.underlying4
 a4:=Tryz.isAgg4
 z4:=Tryz.sizeOf4
 v4:=Tryz.zeroValue4
 t5:=Tryz.underlying5
 a5:=Tryz.isAgg5
 z5:=Tryz.sizeOf5
 v5:=Tryz.zeroValue5
 t9:=Tryz.underlying9
 a9:=Tryz.isAgg9
 z9:=Tryz.sizeOf9
 v9:=Tryz.zeroValue9
 t46:=Tryz.underlying166
 a46:=Tryz.isAgg166
 z46:=Tryz.sizeOf166
 v46:=Tryz.zeroValue166
 t51:=Tryz.underlying189
 a51:=Tryz.isAgg189
 z51:=Tryz.sizeOf189
 v51:=Tryz.zeroValue189
 t59:=Tryz.underlying67
 a59:=Tryz.isAgg67
 z59:=Tryz.sizeOf67
 v59:=Tryz.zeroValue67
 t146:=Tryz.underlying190
 a146:=Tryz.isAgg190
 z146:=Tryz.sizeOf190
 v146:=Tryz.zeroValue190
 g1:=by kernel_rfl }
def Tryz.lays229_ren:Go.Shelf.Ren:=⟨fun|229=>14|n=>n,fun|9=>9|40=>51|31=>36|152=>62|3=>3|0=>0|4=>4|21=>21|154=>64|n=>n,fun|n=>n⟩
theorem Tryz.lays229:Go.Proofs.Lays.n229 Tryz.prog Tryz.lays229_ren:={
 mixed:=by kernel_rfl
 f229:=Tryz.func14.trans (congrArg some (by kernel_rfl))
 t0:=Tryz.underlying0
 a0:=Tryz.isAgg0
 z0:=Tryz.sizeOf0
 v0:=Tryz.zeroValue0
 t3:=Tryz.underlying3
 a3:=Tryz.isAgg3
 z3:=Tryz.sizeOf3
 v3:=Tryz.zeroValue3
 t4:=Tryz.underlying4
 a4:=Tryz.isAgg4
 z4:=Tryz.sizeOf4
 v4:=Tryz.zeroValue4
 t9:=Tryz.underlying9
 a9:=Tryz.isAgg9
 z9:=Tryz.sizeOf9
 v9:=Tryz.zeroValue9
 t21:=Tryz.underlying21
 a21:=Tryz.isAgg21
 z21:=Tryz.sizeOf21
 v21:=Tryz.zeroValue21
 t31:=Tryz.underlying36
 a31:=Tryz.isAgg36
 z31:=Tryz.sizeOf36
 v31:=Tryz.zeroValue36
 t40:=Tryz.underlying51
 a40:=Tryz.isAgg51
 z40:=Tryz.sizeOf51
 v40:=Tryz.zeroValue51
 t152:=Tryz.underlying62
 a152:=Tryz.isAgg62
 z152:=Tryz.sizeOf62
 v152:=Tryz.zeroValue62
 t154:=Tryz.underlying64
 a154:=Tryz.isAgg64
 z154:=Tryz.sizeOf64
 v154:=Tryz.zeroValue64 }
end Go.Proofs
namespace Go.Proofs.YtcfjiolldehegaaGreatDoor
open Go.RowKit Go.Lib
theorem words1_pays (w:World):PredAtRunes Tryz.prog 15 #[] (fun r=>r==32) w:=fun W r _ _=>by
 unfold FnGives
 go_enter Tryz.func15,Tryz.ntmps15
 go_wp2
 go_ret
 have e:((r:Int)==32)=(r==32):=by rw[Bool.eq_iff_iff];simp only[beq_iff_eq];omega
 exact⟨by rw[<- e];rfl,0,rfl⟩
end Go.Proofs.YtcfjiolldehegaaGreatDoor
namespace Go.Proofs.YtcfjiolldehegaaGreatDoor
open Go.Ev Go.RowKit
noncomputable def C0:Cx:={ P:=Tryz.prog,X:=fun _ _=>none,mu:=fun _=>false,good:=fun _=>false }
theorem C0_P:C0.P=Tryz.prog:=rfl
theorem clone_ok0 {G:List (Nat×Value)}:CallOk Tryz.prog G (cloneX 259):=by
 refine cloneX_ok (f:=259) (fn:=Tryz.f259) (e:=(189,1,4)) (by kernel_rfl) (by kernel_rfl) rfl (Nat.lt_of_lt_of_le (Nat.lt_succ_self 4) (Nat.le_of_ble_eq_true (by kernel_rfl))) (by kernel_rfl) fun n cs => ?_
 refine⟨20,_,rfl,rfl,⟨20,_,rfl,rfl⟩,fun h1 h2 h3 => ?_⟩
 have hC : ∀m,CallAll Tryz.prog G (callN C0.P C0.X C0.mu C0.good m):=fun m=>callN_all (tabOk_of (fun g args r exps h=>by cases h) (fun _ _ _ _=>rfl)) (fun f fn h=>by cases h) _ m
 suffices h : ∀ {c:Code} {st:St},WP C0 c st (fun e s=>e = .ret/\retOf Tryz.prog s Tryz.f259.results.toList=some (.sv (.sl n cs))) -> ∃call mu k st',CallAll Tryz.prog G call/\exec Tryz.prog call mu k c st=some (.ret,st')/\retOf Tryz.prog st' Tryz.f259.results.toList=some (.sv (.sl n cs)) by
  refine h ?_
  have hlen:(List.length cs:Nat)=n*1:=by omega
  have h2':cs.all SV.one=true:=h2
  have h5:(5<N0)=True:=by simp[N0]
  have hr:Tryz.f259.results.toList=[.tmp 2]:=by kernel_rfl
  rcases Nat.eq_zero_or_pos n with rfl|hn
  ·have:cs=[]:=List.eq_nil_of_length_eq_zero h1
   subst this
   simp only[go_sem,C0_P,h1,h2,h2',h3,h5,hr,elemsC,Nat.zero_le,Nat.mul_one,Nat.zero_mul,Nat.zero_add,retOf,resTV,outSV]
  ·have hn0 : ¬n=0:=by omega
   simp only[go_sem,C0_P,h1,h2,h2',h3,h5,hn0,hr,elemsC,Nat.zero_le,Nat.mul_one,Nat.zero_mul,Nat.zero_add,retOf,resTV,outSV]
   rw[List.take_of_length_le (by omega)]
 rintro c st ⟨m,e,s,he,rfl,hr⟩
 exact⟨_,_,m,s,hC m,he,hr⟩
theorem xS_ok {G:List (Nat×Value)} (hG:GMet G):CallOk Tryz.prog G xS:=by
 intro g args r exps h
 unfold xS at h
 split at h
 ·rename_i hg
  rw[show g=205 from Nat.eq_of_beq_eq_true hg]
  refine fun w F B vals _=>index_at (fn:=Tryz.f205) (by kernel_rfl) (by kernel_rfl) (by kernel_rfl) (by kernel_rfl) (by kernel_rfl) h w F B vals
 split at h
 ·rename_i hg
  rw[show g=303 from Nat.eq_of_beq_eq_true hg]
  refine fun w F B vals _=>cmp_at (fn:=Tryz.f303) (by kernel_rfl) (by kernel_rfl) (by kernel_rfl) (by kernel_rfl) (by kernel_rfl) h w F B vals
 split at h
 ·rename_i hg
  rw[show g=328 from Nat.eq_of_beq_eq_true hg]
  refine fun w F B vals _=>count_at (fn:=Tryz.f328) (by kernel_rfl) (by kernel_rfl) (by kernel_rfl) (by kernel_rfl) (by kernel_rfl) h w F B vals
 split at h
 ·rename_i hg
  rw[show g=71 from Nat.eq_of_beq_eq_true hg]
  refine fun w F B vals _=>trim_at (enters_of (fn:=Tryz.f71) (c:=(Tryz.f71).body.get!) (by kernel_rfl) (by kernel_rfl) (by kernel_rfl)) (fun s c w h1 h2 h3=>Any.strings_Trim_laid Tryz.lays160 (by kernel_rfl) s c w h1 h2 h3) h w F B vals
 split at h
 ·rename_i hg
  rw[show g=227 from Nat.eq_of_beq_eq_true hg]
  refine fun w F B vals _=>trimLeft_at (enters_of (fn:=Tryz.f227) (c:=(Tryz.f227).body.get!) (by kernel_rfl) (by kernel_rfl) (by kernel_rfl)) (fun s c w h2 h3=>Any.strings_TrimLeft_laid Tryz.lays161 (by kernel_rfl) s c w h2 h3) h w F B vals
 split at h
 ·rename_i hg
  rw[show g=19 from Nat.eq_of_beq_eq_true hg]
  refine fun w F B vals _=>join_at (enters_of (fn:=Tryz.f19) (c:=(Tryz.f19).body.get!) (by kernel_rfl) (by kernel_rfl) (by kernel_rfl)) (fun a c sep w=>Any.strings_Join_none Tryz.lays156 Tryz.Builder_Extra_156 a c sep w) (fun bk o c xs sep w h1 h2 h3 h4 h5=>Any.strings_Join Tryz.lays156 Tryz.Builder_Extra_156 bk o c xs sep w h1 h2 h3 h4 h5) h w F B vals
 split at h
 ·rename_i hg
  rw[show g=72 from Nat.eq_of_beq_eq_true hg]
  refine fun w F B vals _=>atoi_at (enters_of (fn:=Tryz.f72) (c:=(Tryz.f72).body.get!) (by kernel_rfl) (by kernel_rfl) (by kernel_rfl)) (fun s v w h1 h2=>(Any.strconv_Atoi Tryz.lays172 s v h1 h2 w).mono (by rintro e w' ⟨h3,t,rfl⟩;exact⟨h3,⟨rfl,rfl,rfl,by rw[Lib.bytesWorld_size];omega,fun k hk=>Lib.bytesWorld_at_old w _ t k hk⟩⟩)) h w F B vals
 split at h
 ·rename_i hg
  rw[show g=34 from Nat.eq_of_beq_eq_true hg]
  obtain⟨m,hm⟩:=hG
  exact cut_at (enters_of (fn:=Tryz.f34) (c:=(Tryz.f34).body.get!) (by kernel_rfl) (by kernel_rfl) (by kernel_rfl)) hm (fun s c w h1 h2=>Any.strings_Cut Tryz.lays145 s c m w h1 h2) h
 split at h
 ·rename_i hg
  rw[show g=14 from Nat.eq_of_beq_eq_true hg]
  refine fun w F B vals _=>fields_at (enters_of (fn:=Tryz.f14) (c:=(Tryz.f14).body.get!) (by kernel_rfl) (by kernel_rfl) (by kernel_rfl)) (fun s w h1=>Any.strings_FieldsFunc_runes Tryz.lays229 15 #[] (enters_of (fn:=Tryz.f15) (c:=(Tryz.f15).body.get!) (by kernel_rfl) (by kernel_rfl) (by kernel_rfl)) (fun c=>c==32) s w h1 (words1_pays w) (by kernel_rfl) (by kernel_rfl)) h w F B vals
 exact clone_ok0 g args r exps h
end Go.Proofs.YtcfjiolldehegaaGreatDoor
namespace Go.Ev
def natP (l:List UInt8):Option Nat:=if l=[]\/400<l.length\/digs l=false then none else some (natD l)
def frontL (c:UInt8) (l:List UInt8):List UInt8:=l.takeWhile (· != c)
def backL (c:UInt8) (l:List UInt8):List UInt8:=(l.dropWhile (· != c)).tail
theorem front_back {c:UInt8} {a b:List UInt8} (h : ∀x∈a,x≠c):frontL c (a++c::b)=a/\backL c (a++c::b)=b:=by
 unfold frontL backL
 induction a with
 |nil=>simp
 |cons x a ih=>
  have hx:(x != c)=true:=by simpa using h x List.mem_cons_self
  obtain⟨h1,h2⟩:=ih fun y hy=>h y (List.mem_cons_of_mem _ hy)
  rw[List.cons_append,List.takeWhile_cons,List.dropWhile_cons,hx]
  simp only[if_true]
  exact⟨by rw[h1],h2⟩
def negP (l:List UInt8):Bool:=l.head?==some 45
def absP (l:List UInt8):List UInt8:=if negP l then l.tail else l
def decP (l:List UInt8):Option Rat:=
 if (absP l).contains 46 then
  if frontL 46 (absP l)=[] then none else
  match natP (backL 46 (absP l)),natP (frontL 46 (absP l)++backL 46 (absP l)) with
  |some _,some n=>some (mkRat (sgn (negP l) n) (10^(backL 46 (absP l)).length))
  |_,_=>none
 else
  match natP (frontL 47 (absP l)),natP (if (absP l).contains 47 then backL 47 (absP l) else [49]) with
  |some n,some d=>if d=0 then none else some (mkRat (sgn (negP l) n) d)
  |_,_=>none
def isPM (b:UInt8):Bool:=b==43||b==45
def expP (l:List UInt8):Option Int:=
 if l.length-(l.dropWhile isPM).length>1\/(l.dropWhile isPM).length<1\/(l.dropWhile isPM).length>2\/digs (l.dropWhile isPM)=false then none else
 if natD (l.dropWhile isPM)<=30 then some (if l.head?=some 45 then - (natD (l.dropWhile isPM):Int) else (natD (l.dropWhile isPM):Int)) else none
def tenR (k:Int):Rat:=if k<0 then 1/(10:Rat)^k.natAbs else (10:Rat)^k.natAbs
def numP (l:List UInt8):Nat×Rat:=
 if 60<l.length then (3,0) else
 if l.contains 101 then
  match decP (frontL 101 l),expP (backL 101 l) with
  |some q,some k=>if l.contains 47 then (2,0) else (0,q*tenR k)
  |_,_=>(2,0)
 else match decP l with
  |some q=>(0,q)
  |none=>(2,0)
def ratT (q:Rat):List UInt8:=(if q.num<0 then [45] else [])++dec q.num.natAbs++(if q.den=1 then [] else 47::dec q.den)
def gapB (b:UInt8):Bool:=b==32||b==44||b==10
def toks:List UInt8->List UInt8->List (List UInt8)
 |cur,[]=>if cur=[] then [] else [cur.reverse]
 |cur,b::r=>if gapB b then (if cur=[] then toks [] r else cur.reverse::toks [] r) else toks (b::cur) r
def plainL:Bool->List UInt8->List UInt8
 |_,[]=>[]
 |off,b::r=>if b==10 then 10::plainL false r else if off||b==35 then plainL true r else b::plainL false r
def runP:List (List UInt8)->Nat×List Rat
 | []=>(0,[])
 |t::r=>match numP t with
  |(0,q)=>match runP r with
   |(0,l)=>(0,q::l)
   |(e,_)=>(e,[])
  |(e,_)=>(e,[])
def parseP (l:List UInt8):Nat×List Rat:=
 match runP (toks [] (plainL false l)) with
 |(0,x)=>if 256<x.length then (3,[]) else (0,x)
 |(e,_)=>(e,[])
theorem toks_gaps {g r:List UInt8} (h : ∀b∈g,gapB b=true):toks [] (g++r)=toks [] r:=by
 induction g with
 |nil=>rfl
 |cons b g ih=>
  rw[List.cons_append,toks,h b List.mem_cons_self]
  simp only[if_true]
  exact ih fun x hx=>h x (List.mem_cons_of_mem _ hx)
def joinW:List (List UInt8)->List UInt8
 | []=>[]
 | [t]=>t
 |t::u::r=>t++32::joinW (u::r)
theorem join_cons (t:List UInt8) (r:List (List UInt8)):joinW (t::r)=t++(r.map fun x=>[32]++x).flatten:=by
 induction r generalizing t with
 |nil=>simp[joinW]
 |cons u r ih=>rw[joinW,ih u];simp

end Go.Ev
namespace Go.Proofs.YtcfjiolldehegaaGreatDoor
open Go.Ev
theorem idxB_bs {l:List UInt8} {i:Nat}:idxB (bs l) i=(l[i]?).map (fun b => .sv (.int .u8 (b.toNat:Int))):=by
 unfold idxB
 rw[bs_get]
 cases l[i]?<;>rfl
theorem mk_bs {l:List UInt8}:ByteArray.mk l.toArray=bs l:=_root_.id rfl
theorem beq_nil {α:Type} [BEq α] {a:α} {l:List α}:((a::l)==[])=false:=_root_.id rfl
theorem nil_beq {α:Type} [BEq α]:(([]:List α)==[])=true:=_root_.id rfl
theorem u8_back (b:UInt8):((b.toNat:Int)).toNat.toUInt8=b:=by simp
theorem index_cases (c:UInt8) (l:List UInt8):(l.contains c=false/\Lib.indexByte l c = -1/\frontL c l=l/\backL c l=[]) \/
  ∃i:Nat,l.contains c=true/\Lib.indexByte l c=(i:Int)/\i<l.length/\l.take i=frontL c l/\l.drop (i+1)=backL c l:=by
 induction l with
 |nil=>exact .inl ⟨rfl,rfl,rfl,rfl⟩
 |cons b l ih=>
  by_cases hb:b=c
  ·subst hb
   refine .inr ⟨0,by simp,?_,by simp,by simp[frontL],by simp[backL]⟩
   unfold Lib.indexByte
   simp
  ·have hb':(b==c)=false:=by simpa using hb
   have hn:(b != c)=true:=by simpa using hb
   have hcb:(c==b)=false:=by simpa using fun e:c=b=>hb e.symm
   have hf:frontL c (b::l)=b::frontL c l:=by unfold frontL;rw[List.takeWhile_cons,hn];rfl
   have hk:backL c (b::l)=backL c l:=by unfold backL;rw[List.dropWhile_cons,hn];rfl
   have hc:(b::l).contains c=l.contains c:=by rw[List.contains_cons,hcb,Bool.false_or]
   rcases ih with⟨h1,h2,h3,h4⟩|⟨i,h1,h2,h3,h4,h5⟩
   ·refine .inl ⟨hc.trans h1,?_,by rw[hf,h3],hk.trans h4⟩
    unfold Lib.indexByte
    simp[hb',h2]
   ·refine .inr ⟨i+1,hc.trans h1,?_,by simpa using h3,by rw[hf,List.take_succ_cons,h4],by rw[hk,List.drop_succ_cons,h5]⟩
    unfold Lib.indexByte
    have:((i:Int) == -1)=false:=by rw[beq_eq_false_iff_ne];omega
    simp only[hb',h2,this,Bool.false_eq_true,if_false]
    omega
structure StrCx (C:Cx):Prop where
 P:C.P=Tryz.prog
 good:C.good=good
 x1 : ∀s c,C.X 205 [.sv (.str s),.sv (.int .u8 c)]=some (.sv (.int .i64 (Lib.indexByte s.data.toList c.toNat.toUInt8)),List.replicate 2 none)
 x2 : ∀s c,C.X 328 [.sv (.str s),.sv (.int .u8 c)]=some (.sv (.int .i64 (Lib.countByte s.data.toList c.toNat.toUInt8)),List.replicate 2 none)
 n1 : ∀ars,C.X 118 ars=none
 n2 : ∀ars,C.X 63 ars=none
 n3 : ∀ars,C.X 31 ars=none
 n4 : ∀ars,C.X 310 ars=none
 n5 : ∀ars,C.X 65 ars=none
 n6 : ∀ (s:ByteArray) (b:UInt8),C.X 34 [.sv (.str s),.sv (.str (bs [b]))]=none
theorem CB_str:StrCx CB:=⟨rfl,rfl,fun _ _=>rfl,fun _ _=>rfl,fun _=>rfl,fun _=>rfl,fun _=>rfl,fun _=>rfl,fun _=>rfl,fun _ _=>rfl⟩
theorem CX_str:StrCx CX:=⟨rfl,rfl,fun _ _=>rfl,fun _ _=>rfl,fun _=>rfl,fun _=>rfl,fun _=>rfl,fun _=>rfl,fun _=>rfl,fun _ _=>rfl⟩
section
variable {C:Cx}
theorem x_index (h:StrCx C) (s:ByteArray) (c:UInt8):Go.Ev.Fn C 205 [.str s,.int .u8 (c.toNat:Int)] (.int .i64 (Lib.indexByte s.data.toList c)):=by
 refine⟨1,List.replicate 2 none,?_⟩
 have:=h.x1 s (c.toNat:Int)
 rw[u8_back]at this
 show (match C.X _ _ with|some r=>some r|none=>_)=_
 rw[show ([SV.str s,SV.int .u8 (c.toNat:Int)].map Arg.sv)=[.sv (.str s),.sv (.int .u8 (c.toNat:Int))] from rfl,this]
theorem x_count (h:StrCx C) (s:ByteArray) (c:UInt8):Go.Ev.Fn C 328 [.str s,.int .u8 (c.toNat:Int)] (.int .i64 (Lib.countByte s.data.toList c)):=by
 refine⟨1,List.replicate 2 none,?_⟩
 have:=h.x2 s (c.toNat:Int)
 rw[u8_back]at this
 show (match C.X _ _ with|some r=>some r|none=>_)=_
 rw[show ([SV.str s,SV.int .u8 (c.toNat:Int)].map Arg.sv)=[.sv (.str s),.sv (.int .u8 (c.toNat:Int))] from rfl,this]
theorem lite_IndexByte (h:StrCx C) (s:ByteArray) (c:UInt8):Go.Ev.Fn C 118 [.str s,.int .u8 (c.toNat:Int)] (.int .i64 (Lib.indexByte s.data.toList c)):=by
 have hx:=x_index h s c
 obtain⟨P,X,mu,gd⟩:=C
 obtain⟨rfl,rfl,_,_,n1,n2,n3,n4,n5,n6⟩:=h
 refine Go.Ev.Fn.intro (fn:=Tryz.f118) (body:=(Tryz.f118).body.get!) (by kernel_rfl) (by kernel_rfl) (by kernel_rfl) n1 (Nat.le_of_ble_eq_true (by kernel_rfl)) ?_;unfold Tryz.f118;simp only[Option.get!_some]
 simp only[go_sem]
 refine vf_of (hx) ?_;simp only[go_sem]
theorem lite_Index (h:StrCx C) (l:List UInt8) (c:UInt8):Go.Ev.Fn C 63 [.str (bs l),.str (bs [c])] (.int .i64 (Lib.indexByte l c)):=by
 have hx:=lite_IndexByte h (bs l) c
 rw[bs_toList]at hx
 obtain⟨P,X,mu,gd⟩:=C
 obtain⟨rfl,rfl,_,_,n1,n2,n3,n4,n5,n6⟩:=h
 refine Go.Ev.Fn.intro (fn:=Tryz.f63) (body:=(Tryz.f63).body.get!) (by kernel_rfl) (by kernel_rfl) (by kernel_rfl) n2 (Nat.le_of_ble_eq_true (by kernel_rfl)) ?_;unfold Tryz.f63;simp only[Option.get!_some]
 by_cases he:[c]=l
 ·subst he
  have:Lib.indexByte [c] c=0:=by unfold Lib.indexByte;simp
  rw[this]
  repeat (first|simp only[go_sem,bs_size,bs_eq,BEq.rfl]|simp (disch:=first|exact oa|fail) only[AX,bs_size,bs_eq,BEq.rfl]|refine wki ?_|refine wqn ?_|refine vpx [] ?_)
 ·have he:([c]==l)=false:=by simpa using he
  repeat (first|simp only[go_sem,bs_size,vo_ix,idxB_bs,bs_eq,he]|simp (disch:=first|exact oa|fail) only[AX,bs_size,vo_ix,idxB_bs,bs_eq,he]|refine wki ?_|refine wqn ?_|refine vpx [] ?_|refine vf_of (by first|exact hx) ?_)
theorem str_Index (h:StrCx C) (l:List UInt8) (c:UInt8):Go.Ev.Fn C 31 [.str (bs l),.str (bs [c])] (.int .i64 (Lib.indexByte l c)):=by
 have hx:=lite_Index h l c
 obtain⟨P,X,mu,gd⟩:=C
 obtain⟨rfl,rfl,_,_,n1,n2,n3,n4,n5,n6⟩:=h
 refine Go.Ev.Fn.intro (fn:=Tryz.f31) (body:=(Tryz.f31).body.get!) (by kernel_rfl) (by kernel_rfl) (by kernel_rfl) n3 (Nat.le_of_ble_eq_true (by kernel_rfl)) ?_;unfold Tryz.f31;simp only[Option.get!_some]
 simp only[go_sem]
 refine vf_of (hx) ?_;simp only[go_sem]
theorem str_Count (h:StrCx C) (l:List UInt8) (c:UInt8):Go.Ev.Fn C 310 [.str (bs l),.str (bs [c])] (.int .i64 (l.count c)):=by
 have hx:=x_count h (bs l) c
 rw[bs_toList,show Lib.countByte l c=l.count c from rfl]at hx
 obtain⟨P,X,mu,gd⟩:=C
 obtain⟨rfl,rfl,_,_,n1,n2,n3,n4,n5,n6⟩:=h
 refine Go.Ev.Fn.intro (fn:=Tryz.f310) (body:=(Tryz.f310).body.get!) (by kernel_rfl) (by kernel_rfl) (by kernel_rfl) n4 (Nat.le_of_ble_eq_true (by kernel_rfl)) ?_;unfold Tryz.f310;simp only[Option.get!_some]
 repeat (first|simp only[go_sem,bs_size,vo_ix,idxB_bs]|simp (disch:=first|exact oa|fail) only[AX,bs_size,vo_ix,idxB_bs]|refine wki ?_|refine wqn ?_|refine vpx [] ?_)
 refine vf_of (hx) ?_;simp only[go_sem]
theorem lite_Cut (h:StrCx C) (l:List UInt8) (c:UInt8) (hl:l.length<=1099511627776):Go.Ev.Fn C 65 [.str (bs l),.str (bs [c])] (.tup [.str (bs (frontL c l)),.str (bs (backL c l)),.bool (l.contains c)]):=by
 have hx:=lite_Index h l c
 obtain⟨P,X,mu,gd⟩:=C
 obtain⟨rfl,rfl,_,_,n1,n2,n3,n4,n5,n6⟩:=h
 refine Go.Ev.Fn.intro (fn:=Tryz.f65) (body:=(Tryz.f65).body.get!) (by kernel_rfl) (by kernel_rfl) (by kernel_rfl) n5 (Nat.le_of_ble_eq_true (by kernel_rfl)) ?_;unfold Tryz.f65;simp only[Option.get!_some]
 rcases index_cases c l with⟨h1,h2,h3,h4⟩|⟨i,h1,h2,h3,h4,h5⟩
 ·rw[h2]at hx
  rw[h1,h3,h4]
  repeat (first|simp only[go_sem,bs_size]|simp (disch:=first|exact oa|fail) only[AX,bs_size]|refine wki ?_|refine wqn ?_|refine vpx [] ?_|refine vf_of (by first|exact hx) ?_)
  rfl
 ·rw[h2]at hx
  rw[h1,<- h4,<- h5]
  repeat (first|simp only[go_sem,bs_size,bs_extract]|simp (disch:=first|exact oa|fail) only[AX,bs_size,bs_extract]|refine wki ?_|refine wqn ?_|refine vpx [] ?_|refine vf_of (by first|exact hx) ?_)
  rw[List.take_of_length_le (by simp)]
theorem str_Cut (h:StrCx C) (l:List UInt8) (c:UInt8) (hl:l.length<=1099511627776):Go.Ev.Fn C 34 [.str (bs l),.str (bs [c])] (.tup [.str (bs (frontL c l)),.str (bs (backL c l)),.bool (l.contains c)]):=by
 have hx:=lite_Cut h l c hl
 obtain⟨P,X,mu,gd⟩:=C
 obtain⟨rfl,rfl,_,_,n1,n2,n3,n4,n5,n6⟩:=h
 refine Go.Ev.Fn.introAt (fn:=Tryz.f34) (body:=(Tryz.f34).body.get!) (by kernel_rfl) (by kernel_rfl) (by kernel_rfl) (n6 _ _) (Nat.le_of_ble_eq_true (by kernel_rfl)) ?_;unfold Tryz.f34;simp only[Option.get!_some]
 simp only[go_sem]
 refine vf_of (hx) ?_;simp only[go_sem]
end
end Go.Proofs.YtcfjiolldehegaaGreatDoor
namespace Go.Proofs.YtcfjiolldehegaaGreatDoor
open Go.Ev
theorem split_none {c:UInt8} {l:List UInt8} (h:l.contains c=false):splitB c l=[l]:=by
 induction l with
 |nil=>rfl
 |cons b l ih=>
  rw[List.contains_cons,Bool.or_eq_false_iff]at h
  have hb:(b==c)=false:=by
   have:=h.1
   simp only[beq_eq_false_iff_ne]at this ⊢
   exact fun e=>this e.symm
  unfold splitB
  rw[hb,ih h.2]
  rfl
theorem split_some {c:UInt8} {l:List UInt8} (h:l.contains c=true):splitB c l=frontL c l::splitB c (backL c l):=by
 induction l with
 |nil=>simp at h
 |cons b l ih=>
  by_cases hb:b=c
  ·subst hb
   rw[show frontL b (b::l)=[] by simp[frontL],show backL b (b::l)=l by simp[backL],splitB]
   simp
  ·have hb':(b==c)=false:=by simpa using hb
   have hn:(b != c)=true:=by simpa using hb
   have hcb:(c==b)=false:=by simpa using fun e:c=b=>hb e.symm
   rw[List.contains_cons,hcb,Bool.false_or]at h
   have hf:frontL c (b::l)=b::frontL c l:=by unfold frontL;rw[List.takeWhile_cons,hn];rfl
   have hk:backL c (b::l)=backL c l:=by unfold backL;rw[List.dropWhile_cons,hn];rfl
   rw[hf,hk,splitB,hb',ih h]
   rfl
theorem split_len (c:UInt8) (l:List UInt8):(splitB c l).length=l.count c+1:=by
 induction l with
 |nil=>rfl
 |cons b l ih=>
  unfold splitB
  rw[List.count_cons]
  cases h:b==c with
  |true=>simp[ih]
  |false=>
   simp only[Bool.false_eq_true,if_false,Nat.add_zero]
   cases hs:splitB c l with
   |nil=>rw[hs]at ih;simp at ih
   |cons x xs=>rw[hs]at ih;exact ih
theorem count_le {c:UInt8} {l:List UInt8}:l.count c<=l.length:=List.count_le_length
theorem back_len {c:UInt8} {l:List UInt8}:(backL c l).length<=l.length:=by
 unfold backL
 rw[List.length_tail]
 have:=(List.dropWhile_sublist (l:=l) (fun x=>x != c)).length_le
 omega
theorem gen_row (l:List UInt8) (c:UInt8) (hl:l.length<=1048576) :
  ∃n,rowN CB.P CB.X CB.mu CB.good n 280 ([.str (bs l),.str (bs [c]),.int .i64 0,.int .i64 (-1)].map Arg.sv)=some (.row ((splitB c l).map strC) 1 0 (splitB c l).length,List.replicate 4 none):=by
 have hc:=str_Count CB_str l c
 have hlen:=split_len c l
 have hcl:=count_le (c:=c) (l:=l)
 refine row_intro (fn:=Tryz.f280) (body:=(Tryz.f280).body.get!) (by kernel_rfl) (by kernel_rfl) (by kernel_rfl) (Nat.le_of_ble_eq_true (by kernel_rfl)) ?_
 unfold Tryz.f280
 simp only[Option.get!_some]
 generalize hm:l.count c=m at *
 repeat (first|simp only[go_sem,bs_size,bs_list,mk_bs,beq_nil]|simp (disch:=first|exact oa|fail) only[AX,bs_size,bs_list,mk_bs,beq_nil]|refine wki ?_|refine wqn ?_|refine vpx [] ?_|refine vf_of (by first|exact hc) ?_)
 refine vp_loop_inv (fun s=>s.tmp 1 = .sv (.str (bs [c]))/\s.tmp 2 = .sv (.int .i64 0)/\s.tmp 3 = .sv (.int .i64 (m:Int))/\s.tmp 9 = .ref 31 0 1 0 (m+1) /\
   ∃ (i:Nat) (r:List UInt8) (cs:List SV),s.tmp 10 = .sv (.int .i64 (i:Int))/\s.tmp 0 = .sv (.str (bs r))/\s.obj 31 0=some cs/\i<=m/\r.length<=l.length/\splitB c r=(splitB c l).drop i/\cs.length=m+1/\cs.take i=((splitB c l).take i).map strC)
  (fun s=>match s.tmp 10 with | .sv (.int _ i)=>m-i.toNat|_=>0) ?_ ?_
 ·refine⟨rfl,rfl,rfl,rfl,0,l,_,rfl,rfl,rfl,by omega,by omega,rfl,by simp,rfl⟩
 rintro s2 ⟨i1,i2,i3,i9,i,r,cs,i10,i0,iO,hi,hr,hs,hcs,ht⟩
 by_cases hend:i=m
 ·subst hend
  have h1:(splitB c r).length=1:=by rw[hs,List.length_drop,hlen];omega
  have hnc:r.contains c=false:=by
   cases hb:r.contains c with
   |false=>rfl
   |true=>
    rw[split_some hb]at h1
    have:=split_len c (backL c r)
    simp at h1
    rw[h1]at this
    simp at this
  have hl1:(splitB c l).drop i=[r]:=by rw[<- hs,split_none hnc]
  have hall:cs.take i++[strC r]++cs.drop (i+1)=(splitB c l).map strC:=by
   rw[ht,List.drop_of_length_le (by omega),List.append_nil]
   have:=List.take_append_drop i (splitB c l)
   rw[hl1]at this
   have e:=congrArg (List.map strC) this
   rw[List.map_append]at e
   exact e
  unfold strC at hall
  repeat (first|simp only[go_sem,i1,i2,i3,i9,i10,i0,iO,bs_size,hcs,hall,hlen]|simp (disch:=first|exact oa|fail) only[AX,i1,i2,i3,i9,i10,i0,iO,bs_size,hcs,hall,hlen]|refine wki ?_|refine wqn ?_|refine vpx [] ?_)
  rfl
 ·have hlt:i<m:=by omega
  have h1:(splitB c r).length=m+1-i:=by rw[hs,List.length_drop,hlen]
  have hct:r.contains c=true:=by
   cases hb:r.contains c with
   |true=>rfl
   |false=>
    rw[split_none hb]at h1
    simp at h1
    omega
  have hix:=str_Index CB_str r c
  rcases index_cases c r with⟨h2,_⟩|⟨k,_,h3,h4,h5,h6⟩
  ·rw[hct]at h2;cases h2
  rw[h3]at hix
  rw[split_some hct]at hs
  have hd:(splitB c l).drop (i+1)=splitB c (backL c r):=by
   rw[<- List.drop_drop,<- hs]
   rfl
  have hg:(splitB c l)[i]?=some (frontL c r):=by
   have:=congrArg (fun x=>x[0]?) hs
   simpa using this.symm
  have hn:cs.take i++[SV.str (bs (frontL c r))]++cs.drop (i+1)=cs.set i (.str (bs (frontL c r))):=by
   rw[List.set_eq_take_append_cons_drop,if_pos (by omega)]
   simp
  have hbl:=back_len (c:=c) (l:=r)
  repeat (first|simp only[go_sem,i1,i2,i3,i9,i10,i0,iO,bs_size,hcs,bs_list,mk_bs,Int.add_zero,Int.toNat_natCast,bs_extract,List.drop_zero,Nat.sub_zero,h5,h6,hn]|simp (disch:=first|exact oa|fail) only[AX,i1,i2,i3,i9,i10,i0,iO,bs_size,hcs,bs_list,mk_bs,Int.add_zero,Int.toNat_natCast,bs_extract,List.drop_zero,Nat.sub_zero,h5,h6,hn]|refine wki ?_|refine wqn ?_|refine vpx [] ?_|refine vf_of (by first|exact hix) ?_)
  refine⟨⟨i+1,backL c r,cs.set i (.str (bs (frontL c r))),rfl,?_,rfl,by omega,by omega,hd.symm,by rw[List.length_set];exact hcs,?_⟩,by omega⟩
  ·rw[<- h6]
   congr 3
   rw[List.take_of_length_le (by rw[List.length_drop];omega)]
  ·rw[List.take_add_one,List.take_add_one,List.map_append,List.take_set_of_le (Nat.le_refl _),ht,List.getElem?_set_self (by omega),hg]
   rfl
theorem xT_ok {G:List (Nat×Value)} (hS:CallOk Tryz.prog G xS):CallOk Tryz.prog G xT:=by
 refine tab_row_ok (mu:=CB.mu) (good:=good) (tabOk_of hS xS_none) good_ok xT fun g args r exps hx => ?_
 unfold xT at hx
 split at hx
 ·rename_i hg
  have hg:g=280:=Nat.eq_of_beq_eq_true hg
  subst hg
  unfold xGenSplit at hx
  split at hx
  ·rename_i s sep
   split at hx
   ·rename_i c hc
    split at hx
    ·rename_i hl
     cases hx
     have e1:s=bs s.data.toList:=rfl
     have e2:sep=bs [c]:=by rw[<- hc];rfl
     rw[e2]
     have hl':s.data.toList.length<=1048576:=by rw[<- bs_size];exact hl
     exact .inr (.inl (gen_row s.data.toList c hl'))
    ·cases hx
   ·cases hx
  ·cases hx
 ·exact .inl hx
theorem split_row (l:List UInt8) (c:UInt8) (hl:l.length<=1048576) :
  ∃n,rowN CZ.P CZ.X CZ.mu CZ.good n 212 ([.str (bs l),.str (bs [c])].map Arg.sv)=some (.row ((splitB c l).map strC) 1 0 (splitB c l).length,List.replicate 2 none):=by
 refine row_intro (fn:=Tryz.f212) (body:=(Tryz.f212).body.get!) (by kernel_rfl) (by kernel_rfl) (by kernel_rfl) (Nat.le_of_ble_eq_true (by kernel_rfl)) ?_
 unfold Tryz.f212
 simp only[Option.get!_some]
 have hg:FnR CZ 280 [.str (bs l),.str (bs [c]),.int .i64 0,.int .i64 (-1)] ((splitB c l).map strC) 1 0 (splitB c l).length:=by
  refine⟨1,List.replicate 4 none,?_⟩
  have h:xT 280 [.sv (.str (bs l)),.sv (.str (bs [c])),.sv (.int .i64 0),.sv (.int .i64 (-1))]=some (.row ((splitB c l).map strC) 1 0 (splitB c l).length,List.replicate 4 none):=by
   unfold xT
   rw[if_pos (by rfl)]
   unfold xGenSplit
   simp only[bs_toList]
   rw[if_pos (by rw[bs_size];exact hl)]
  unfold callN
  have h4:CZ.X 280 ([SV.str (bs l),.str (bs [c]),.int .i64 0,.int .i64 (-1)].map Arg.sv)=some (.row ((splitB c l).map strC) 1 0 (splitB c l).length,List.replicate 4 none):=h
  rw[stq_sv,h4]
 simp only[go_sem]
 refine vf_row hg ?_
 simp only[go_sem]
end Go.Proofs.YtcfjiolldehegaaGreatDoor
namespace Go.Proofs.YtcfjiolldehegaaGreatDoor
open Go.Ev
theorem clone_ok {G:List (Nat×Value)} (hG:GMet G):CallOk Tryz.prog G CZ.X:=xT_ok (xS_ok hG)
theorem cz_none (f:FuncId) (k:Bool) (st:St) (vs:List TV):CZ.X f [.st k st vs]=none:=by
 show xT f [.st k st vs]=none
 unfold xT
 split
 ·rfl
 exact xS_none f k st vs
end Go.Proofs.YtcfjiolldehegaaGreatDoor
namespace Go.Proofs.YtcfjiolldehegaaGreatDoor
open Go.Ev
theorem x_fields (s:ByteArray) (h:s.size<=4294967296):Go.Ev.Fn CX 14 [.str s,.fn 15 []] (.sl (Lib.goFieldsP (fun c=>c==32) s).length ((Lib.goFieldsP (fun c=>c==32) s).map SV.str)):=by
 refine⟨1,List.replicate 2 none,?_⟩
 have hX:CX.X 14 [.sv (.str s),.sv (.fn 15 [])]=some (.sv (.sl (Lib.goFieldsP (fun c=>c==32) s).length ((Lib.goFieldsP (fun c=>c==32) s).map SV.str)),List.replicate 2 none):=by
  show xFields 15 [.sv (.str s),.sv (.fn 15 [])]=_
  exact if_pos ⟨rfl,h⟩
 show (match CX.X _ _ with|some r=>some r|none=>_)=_
 rw[show ([SV.str s,SV.fn 15 []].map Arg.sv)=[.sv (.str s),.sv (.fn 15 [])] from rfl,hX]
theorem x_cut (s c:ByteArray) (hc:2<=c.size) (hs:s.size<4294967281):Go.Ev.Fn CX 34 [.str s,.str c] (.tup [.str (bs (Lib.cut s.data.toList c.data.toList).1),.str (bs (Lib.cut s.data.toList c.data.toList).2.1),.bool (Lib.cut s.data.toList c.data.toList).2.2]):=by
 refine⟨1,List.replicate 2 none,?_⟩
 have hX:CX.X 34 [.sv (.str s),.sv (.str c)]=some (.sv (.tup [.str (bs (Lib.cut s.data.toList c.data.toList).1),.str (bs (Lib.cut s.data.toList c.data.toList).2.1),.bool (Lib.cut s.data.toList c.data.toList).2.2]),List.replicate 2 none):=by
  show xCut [.sv (.str s),.sv (.str c)]=_
  exact if_pos ⟨hc,hs⟩
 show (match CX.X _ _ with|some r=>some r|none=>_)=_
 rw[show ([SV.str s,SV.str c].map Arg.sv)=[.sv (.str s),.sv (.str c)] from rfl,hX]
theorem tool_words (s:ByteArray) (h:s.size<=4294967296):Go.Ev.Fn CX 8 [.str s] (.sl (Lib.goFieldsP (fun c=>c==32) s).length ((Lib.goFieldsP (fun c=>c==32) s).map SV.str)):=by
 have x1:=x_fields s h
 refine fni Tryz.f8 ?_;unfold Tryz.f8;simp only[Option.get!_some]
 repeat (first|simp only[go_sem]|simp (disch:=first|exact oa|fail) only[AX]|refine wki ?_|refine wqn ?_|refine vf_of (by first|exact x1) ?_)
theorem word_is {a:List UInt8} {b:Array UInt8}:((bs a).toList==(ByteArray.mk b).toList)=(a==b.toList):=bs_eq (b:=b.toList)
theorem tool_names:Go.Ev.Fn CX 26 [.str (bs [118,97,114])] (.int .i64 1):=by
 have c0:((bs [118,97,114]).toList==(ByteArray.mk #[115,104,111,119]).toList)=false:=word_is.trans (by decide)
 have c1:((bs [118,97,114]).toList==(ByteArray.mk #[100,114,111,112]).toList)=false:=word_is.trans (by decide)
 have c2:((bs [118,97,114]).toList==(ByteArray.mk #[115,117,109]).toList)=false:=word_is.trans (by decide)
 have c3:((bs [118,97,114]).toList==(ByteArray.mk #[109,101,97,110]).toList)=false:=word_is.trans (by decide)
 have c4:((bs [118,97,114]).toList==(ByteArray.mk #[118,97,114]).toList)=true:=word_is.trans (by decide)
 refine fni Tryz.f26 ?_;unfold Tryz.f26;simp only[Option.get!_some]
 repeat (first|simp only[go_sem,c0,c1,c2,c3,c4]|simp (disch:=first|exact oa|fail) only[AX,c0,c1,c2,c3,c4]|refine wki ?_|refine wqn ?_)
theorem tool_told (s:ByteArray):Go.Ev.Fn CX 35 [.str s,.int .i64 0] (.str s):=by
 refine fni Tryz.f35 ?_;unfold Tryz.f35;simp only[Option.get!_some]
 repeat (first|simp only[go_sem]|simp (disch:=first|exact oa|fail) only[AX]|refine wki ?_|refine wqn ?_)
theorem tool_about {n:Nat} {cs:List SV} {s:Bool} {a b:List Nat} (f1:Go.Ev.Fn CX 106 [.sl n cs] (.tup [ratV s a b,.int .i64 0])):Go.Ev.Fn CX 58 [.str (bs [118,97,114]),.sl 1 [.sl n cs]] (.tup [ratV s a b,.int .i64 0]):=by
 have c0:((bs [118,97,114]).toList==(ByteArray.mk #[109,101,97,110]).toList)=false:=word_is.trans (by decide)
 have c1:((bs [118,97,114]).toList==(ByteArray.mk #[118,97,114]).toList)=true:=word_is.trans (by decide)
 refine fni Tryz.f58 ?_;unfold Tryz.f58;simp only[Option.get!_some]
 repeat (first|simp only[go_sem,c0,c1,List.head?_cons]|simp (disch:=first|exact oa|fail) only[AX,c0,c1,List.head?_cons]|refine wki ?_|refine wqn ?_|refine vpd 9 [35,38] ?_|refine vpd 11 [46,49] ?_|refine vf_of (by first|exact f1) ?_)
end Go.Proofs.YtcfjiolldehegaaGreatDoor
