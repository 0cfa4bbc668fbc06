/- Part 5 of the proof: the evaluator, contracts of functions and their plain laws (joined by program). No condition. -/
import Derived.Test.YtjphnjffglapgaaGreatDoorPart4
import Derived.KernelRfl
import Derived.Test.YtjphnjffglapgaaGreatDoorProg
import Derived.Lib.SliceRun
import Derived.Lib.Bytealg
import Derived.Lib.Join
import Derived.Lib.SlTrimSet
import Derived.Lib.Atoi
import Derived.Laws.Externs
import Derived.Lib.Overlaps
import Derived.Shelf.Strings.OnBuilder
import Derived.Shelf.Strings.SlTrimAscii
import Derived.Shelf.Strconv.Atoi
set_option linter.unusedVariables false
set_option linter.unusedSimpArgs false
set_option maxRecDepth 100000
namespace Go.Ev
abbrev ratV (s:Bool) (n d:List Nat):SV := .agg [.bool s,natV n,natV d]
abbrev rv (q:Rat):SV:=ratV (decide (q.num<0)) (lim q.num.natAbs) (lim q.den)
def sgn (s:Bool) (n:Nat):Int:=if s then -(n:Int) else (n:Int)
def RatA (v:SV) (q:Rat) (L:Nat):Prop := ∃s n d,v=ratV s n d/\okL n/\okL d/\n.length<=L/\d.length<=L/\q=mkRat (sgn s (wth n)) (wth d)
def szR (q:Rat) (L:Nat):Prop:=(lim q.num.natAbs).length<=L/\(lim q.den).length<=L
theorem sgn_abs (s:Bool) (n:Nat):(sgn s n).natAbs=n:=by unfold sgn;split<;>omega
theorem sgn_neg (s:Bool) {n:Nat} (h:n≠0):decide (sgn s n<0)=s:=by
 unfold sgn
 cases s
 ·simp
 ·simp;omega
theorem sgn_self (z:Int):sgn (decide (z<0)) z.natAbs=z:=by
 unfold sgn
 by_cases h:z<0
 ·rw[decide_eq_true h];simp;omega
 ·rw[decide_eq_false h];simp;omega
theorem sgn_zero (s:Bool):sgn s 0=0:=by cases s<;>rfl
theorem sgn_mul (a b:Int):sgn (decide (a<0) != decide (b<0)) (a.natAbs*b.natAbs)=a*b:=by
 rcases Int.lt_or_le a 0 with ha|ha<;>rcases Int.lt_or_le b 0 with hb|hb
 ·obtain⟨m,rfl⟩ : ∃m:Nat,a = -(m:Int):=⟨a.natAbs,by omega⟩
  obtain⟨n,rfl⟩ : ∃n:Nat,b = -(n:Int):=⟨b.natAbs,by omega⟩
  rw[decide_eq_true ha,decide_eq_true hb]
  simp[sgn,Int.neg_mul,Int.mul_neg]
 ·obtain⟨m,rfl⟩ : ∃m:Nat,a = -(m:Int):=⟨a.natAbs,by omega⟩
  obtain⟨n,rfl⟩ : ∃n:Nat,b=(n:Int):=⟨b.natAbs,by omega⟩
  rw[decide_eq_true ha,decide_eq_false (by omega)]
  simp[sgn,Int.neg_mul,Int.mul_neg]
 ·obtain⟨m,rfl⟩ : ∃m:Nat,a=(m:Int):=⟨a.natAbs,by omega⟩
  obtain⟨n,rfl⟩ : ∃n:Nat,b = -(n:Int):=⟨b.natAbs,by omega⟩
  rw[decide_eq_false (by omega),decide_eq_true hb]
  simp[sgn,Int.neg_mul,Int.mul_neg]
 ·obtain⟨m,rfl⟩ : ∃m:Nat,a=(m:Int):=⟨a.natAbs,by omega⟩
  obtain⟨n,rfl⟩ : ∃n:Nat,b=(n:Int):=⟨b.natAbs,by omega⟩
  rw[decide_eq_false (by omega),decide_eq_false (by omega)]
  simp[sgn,Int.neg_mul,Int.mul_neg]
theorem mk_zero (s:Bool) {n d:Nat} (h:n=0\/d=0):mkRat (sgn s n) d=0:=by
 rcases h with rfl|rfl
 ·rw[sgn_zero,Rat.zero_mkRat]
 ·rw[Rat.mkRat_zero]
theorem lim_one:lim 1=[1]:=by
 have:=lim_unique (xs:=[1]) (by simp[okL]) (.inr ⟨[],1,rfl,by decide⟩)
 exact this.symm
theorem rv_zero:rv 0=ratV false [] [1]:=by
 show ratV (decide ((0:Int)<0)) (lim (0:Int).natAbs) (lim 1)=_
 rw[lim_one,show (0:Int).natAbs=0 by rfl,lim_zero]
 rfl
theorem mk_parts (s:Bool) {n d:Nat} (hn:n≠0) (hd:d≠0):rv (mkRat (sgn s n) d)=ratV s (lim (n/Nat.gcd n d)) (lim (d/Nat.gcd n d)):=by
 have h1:mkRat (sgn s n) d={ num:=sgn s n/((sgn s n).natAbs.gcd d:Nat),den:=d/(sgn s n).natAbs.gcd d,den_nz:=Nat.ne_of_gt (Nat.div_pos (Nat.gcd_le_right _ (by omega)) (Nat.gcd_pos_of_pos_right _ (by omega))),reduced:=Rat.normalize.reduced (num:=sgn s n) hd rfl }:=by
  rw[Rat.mkRat_def,dif_neg hd,Rat.normalize_eq]
 have h2:(mkRat (sgn s n) d).num=sgn s n/((sgn s n).natAbs.gcd d:Nat):=by rw[h1]
 have h3:(mkRat (sgn s n) d).den=d/(sgn s n).natAbs.gcd d:=by rw[h1]
 rw[rv,h2,h3,sgn_abs]
 have hg:0<n.gcd d:=Nat.gcd_pos_of_pos_left _ (by omega)
 obtain⟨k,hk⟩:=Nat.gcd_dvd_left n d
 have hk0:k≠0:=by rintro rfl;omega
 have h4 : ∀g:Nat,0<g->n=g*k->sgn s n/(g:Int)=sgn s k:=by
  intro g hg hn
  rw[hn]
  unfold sgn
  split
  ·rw[Int.natCast_mul,<- Int.mul_neg,Int.mul_ediv_cancel_left _ (by omega)]
  ·rw[Int.natCast_mul,Int.mul_ediv_cancel_left _ (by omega)]
 have h5:n/n.gcd d=k:=Nat.div_eq_of_eq_mul_right hg hk
 rw[h4 _ hg hk,sgn_abs,sgn_neg _ hk0,h5]
theorem RatA_rv {q:Rat} {L:Nat} (h:szR q L):RatA (rv q) q L:=
 ⟨_,_,_,rfl,okL_lim _,okL_lim _,h.1,h.2,by rw[wth_lim,wth_lim,sgn_self,Rat.mkRat_self]⟩
theorem szR_mono {q:Rat} {L M:Nat} (h:szR q L) (hl:L<=M):szR q M:=⟨Nat.le_trans h.1 hl,Nat.le_trans h.2 hl⟩
theorem lim_len_mono {a b:Nat} (h:a<=b):(lim a).length<=(lim b).length:=trimL_length (okL_lim _) (okL_lim _) (trimL_lim _) (by rw[wth_lim,wth_lim];exact h)
theorem lim_len_lt {a L:Nat} (h:a<4294967296^L):(lim a).length<=L:=by
 have h1:=trimL_length (xs:=lim a) (ys:=limN L a) (okL_lim _) (okL_limN _ _) (trimL_lim _) (by rw[wth_lim,wth_limN,Nat.mod_eq_of_lt h];exact Nat.le_refl _)
 rw[limN_length]at h1
 exact h1
theorem lim_len_pow {a:Nat}:a<4294967296^(lim a).length:=by
 have:=wth_lt (okL_lim a)
 rw[wth_lim]at this
 exact this
theorem lim_len_mul {a b:Nat}:(lim (a*b)).length<=(lim a).length+(lim b).length:=by
 refine lim_len_lt ?_
 rw[Nat.pow_add]
 exact Nat.lt_of_le_of_lt (Nat.mul_le_mul_left _ (Nat.le_of_lt lim_len_pow)) (Nat.mul_lt_mul_of_pos_right lim_len_pow (Nat.pow_pos (by decide)))
theorem szR_mk {s:Bool} {n d L:Nat} (hn:(lim n).length<=L) (hd:(lim d).length<=L) (hL:1<=L):szR (mkRat (sgn s n) d) L:=by
 by_cases h:n=0\/d=0
 ·rw[mk_zero s h]
  exact⟨by rw[show (0:Rat).num.natAbs=0 by rfl,lim_zero];simp,by rw[show (0:Rat).den=1 by rfl,lim_one];exact hL⟩
 ·have h1:=mk_parts s (fun e=>h (.inl e)) (fun e=>h (.inr e))
  simp only[rv,ratV,SV.agg.injEq,List.cons.injEq,natV,SV.sl.injEq,and_true]at h1
  obtain⟨_,⟨h2,_⟩,h3,_⟩:=h1
  refine⟨?_,?_⟩
  ·rw[h2];exact Nat.le_trans (lim_len_mono (Nat.div_le_self _ _)) hn
  ·rw[h3];exact Nat.le_trans (lim_len_mono (Nat.div_le_self _ _)) hd
theorem szR_of {v:SV} {q:Rat} {L:Nat} (h:RatA v q L) (hL:1<=L):szR q L:=by
 obtain⟨s,n,d,rfl,h2,h3,h4,h5,rfl⟩:=h
 exact szR_mk (Nat.le_trans (lim_length_le h2) h4) (Nat.le_trans (lim_length_le h3) h5) hL
end Go.Ev
namespace Go.Ev
section
variable {C:Cx} {ops:Array Oper} {st:St} {Q:St->Prop} {R:Ex->St->Prop}
def WSC (C:Cx) (ops:Array Oper) (L:List Nat) (st:St) (Q:St->Prop):Prop:=
 ∃n s,execC C.P (callN C.P C.X C.mu C.good n) C.mu ops L st=some s/\Q s
def ats1:Option Oper->List Oper->List Oper
 |some o,l=>o::l
 |none,l=>l
def ats (os:List Oper):List Nat->List Oper
 | []=>[]
 |i::r=>ats1 os[i]? (ats os r)
def SameT (a b c:TV):Prop:=a=b/\b=c/\sameTV a a=true
def CKL (C:Cx) (ops:Array Oper) (s1 s2:St) (K:St->Prop):List Nat->Prop
 | []=>K s2
 |k::r=>match ops.toList[k]? with
  |some o=>match o.dst with
   |some t=>WO C false ops [o] s2 (fun s=>SameT (s.tmp t) (s2.tmp t) (s1.tmp t)/\CKL C ops s1 s2 K r)
   |none=>False
  |none=>False
def CKQ (C:Cx) (ops:Array Oper) (s1 s2:St) (K:St->Prop) (t:Nat) (r:List Nat) (s:St):Prop:=SameT (s.tmp t) (s2.tmp t) (s1.tmp t)/\CKL C ops s1 s2 K r
def CK1 (C:Cx) (ops:Array Oper) (s1 s2:St) (K:St->Prop) (o:Option Oper) (r:List Nat):Prop:=match o with
 |some o=>match o.dst with
  |some t=>WO C false ops [o] s2 (CKQ C ops s1 s2 K t r)
  |none=>False
 |none=>False
abbrev Seg:=List Nat×Option (Nat×List Nat)
def WX (C:Cx) (ops:Array Oper) (l:List Oper) (st:St) (Q:St->Prop):Prop:=WO C false ops l st Q
def WSS (C:Cx) (ops:Array Oper) (Q:St->Prop):List Seg->St->Prop
 | [],_=>False
 |(is,none)::_,st=>WX C ops (ats ops.toList is) st Q
 |(is,some (i,ck))::S,st=>WX C ops (ats ops.toList is) st fun s1=>WX C ops (ats ops.toList [i]) s1 fun s2=>CKL C ops s1 s2 (WSS C ops Q S) ck
def WSB (C:Cx) (ops:Array Oper) (Q:St->Prop) (ck:List Nat) (S:List Seg) (s1 s2:St):Prop:=CKL C ops s1 s2 (WSS C ops Q S) ck
def WSA (C:Cx) (ops:Array Oper) (Q:St->Prop) (i:Nat) (ck:List Nat) (S:List Seg) (s1:St):Prop:=WX C ops (ats ops.toList [i]) s1 (WSB C ops Q ck S s1)
def segsI (ops:Array Oper):List Nat->List Nat->List Seg
 | [],acc=>[(acc.reverse,none)]
 |i::r,acc=>match ops[i]? with
  |some o=>if heavyO ops o then (acc.reverse,some (i,(looseI ops i).filter fun k => !r.contains k))::segsI ops r [] else segsI ops r (i::acc)
  |none=>[]
theorem opl {i:Nat}:ops.toList[i]?=ops[i]?:=by simp
theorem wo_consO {o:Oper} {l:List Oper} (h:WO C false ops (o::l) st Q) : ∃n s1,stepO C.P (callN C.P C.X C.mu C.good n) C.mu false ops o st=some s1/\WO C false ops l s1 Q:=by
 obtain⟨n,s,h,q⟩:=h
 unfold execOps at h
 split at h
 ·rename_i s1 h1
  exact⟨n,s1,h1,n,s,h,q⟩
 ·cases h
theorem wo_nil (h:WO C false ops [] st Q):Q st:=by rw[vo_nil]at h;exact h
theorem stepC_plain {P:Program} {call:Callf} {mu:FuncId->Bool} {o:Oper} (h:copyR ops=false):stepC P call mu ops o st=stepO P call mu false ops o st:=by
 unfold stepC
 rw[h,Bool.false_and,if_neg (by simp)]
theorem wo_cons (hcr:copyR ops=false) {o:Oper} {l:List Oper} (h:WO C false ops (o::l) st Q) : ∃n s1,stepC C.P (callN C.P C.X C.mu C.good n) C.mu ops o st=some s1/\WO C false ops l s1 Q:=by
 obtain⟨n,s1,h1,h2⟩:=wo_consO h
 exact⟨n,s1,by rw[stepC_plain hcr];exact h1,h2⟩
theorem wsc_of {i:Nat} {o:Oper} {r:List Nat} {n:Nat} {s1:St} (ho:ops[i]?=some o) (h1:stepC C.P (callN C.P C.X C.mu C.good n) C.mu ops o st=some s1) (hk:ckAll C.P ops r st s1 (looseI ops i)=true) (h:WSC C ops r s1 Q):WSC C ops (i::r) st Q:=by
 obtain⟨m,s,h2,q⟩:=h
 exact⟨max n m,s,execC_of ho (stepC_mono (callN_mono C.X (Nat.le_max_left n m)) h1) hk (execC_mono (callN_mono C.X (Nat.le_max_right n m)) h2),q⟩
theorem wsc_light (hcr:copyR ops=false) : ∀ {is r:List Nat} {st:St},(∀i∈is,∃o,ops[i]?=some o/\heavyO ops o=false)->WO C false ops (ats ops.toList is) st (fun s=>WSC C ops r s Q)->WSC C ops (is++r) st Q
 | [],r,st,_,h=>wo_nil h
 |i::is,r,st,hl,h=>by
  obtain⟨o,ho,hh⟩:=hl i List.mem_cons_self
  unfold ats at h
  rw[opl,ho]at h
  obtain⟨n,s1,h1,h2⟩:=wo_cons hcr h
  refine wsc_of ho h1 ?_ (wsc_light hcr (fun j hj=>hl j (List.mem_cons_of_mem _ hj)) h2)
  rw[loose_light ho hh]
  rfl
theorem ckl_ok (hcr:copyR ops=false) {s1 s2:St} {K:St->Prop} : ∀ {ck:List Nat},(∀k∈ck,∀o,ops[k]?=some o->lookU ops o=true)->CKL C ops s1 s2 K ck->(∀k∈ck,∃o,ops[k]?=some o/\ckOne C.P ops s1 s2 o=true)/\K s2
 | [],_,h=>⟨fun k hk=>(by cases hk),h⟩
 |k::r,hl,h=>by
  unfold CKL at h
  rw[opl]at h
  cases ho:ops[k]? with
  |none=>rw[ho]at h;exact h.elim
  |some o=>
   rw[ho]at h
   dsimp only at h
   cases hd:o.dst with
   |none=>rw[hd]at h;exact h.elim
   |some t=>
    rw[hd]at h
    obtain⟨n,s,h1,h2⟩:=wo_cons hcr h
    obtain⟨⟨e1,e2,e3⟩,h5⟩:=wo_nil h2
    have hlo:=lookU_light (hl k List.mem_cons_self o ho)
    have h1':=light_call (call':=fun _ _=>none) (mu':=fun _=>false) hlo h1
    obtain⟨a,b⟩:=ckl_ok hcr (fun j hj=>hl j (List.mem_cons_of_mem _ hj)) h5
    refine⟨fun j hj => ?_,b⟩
    rcases List.mem_cons.1 hj with rfl|hj
    ·refine⟨o,ho,?_⟩
     unfold ckOne
     rw[hd,h1']
     dsimp only
     rw[<- e2,<- e1,e3]
     rfl
    ·exact a j hj
theorem segs_ok (hcr:copyR ops=false) {Q:St->Prop} : ∀ {L acc:List Nat} {st:St},(∀i∈acc,∃o,ops[i]?=some o/\heavyO ops o=false)->WSS C ops Q (segsI ops L acc) st->WSC C ops (acc.reverse++L) st Q
 | [],acc,st,ha,h=>by
  unfold segsI WSS WX at h
  refine wsc_light hcr (fun i hi=>ha i (List.mem_reverse.1 hi)) ?_
  obtain⟨n,s,h1,q⟩:=h
  exact⟨n,s,h1,n,s,rfl,q⟩
 |i::r,acc,st,ha,h=>by
  unfold segsI at h
  cases ho:ops[i]? with
  |none=>rw[ho]at h;exact h.elim
  |some o=>
   rw[ho]at h
   dsimp only at h
   split at h
   ·unfold WSS WX at h
    refine wsc_light hcr (fun i hi=>ha i (List.mem_reverse.1 hi)) ?_
    obtain⟨n,s1,h1,h⟩:=h
    refine⟨n,s1,h1,?_⟩
    unfold ats at h
    rw[opl,ho]at h
    obtain⟨n2,s2,h2,h⟩:=wo_cons hcr h
    have h:=wo_nil h
    obtain⟨c1,c2⟩:=ckl_ok hcr (fun k hk o' ho'=>by
     obtain⟨_,p,hp,hu,_⟩:=loose_parts ho (List.mem_filter.1 hk).1
     rw[ho']at hp
     cases hp
     exact hu) h
    refine wsc_of ho h2 ?_ (segs_ok hcr (acc:=[]) (fun i hi=>by cases hi) c2)
    refine List.all_eq_true.2 fun k hk => ?_
    cases hr:r.contains k with
    |true=>rfl
    |false=>
     obtain⟨o',ho',hc⟩:=c1 k (List.mem_filter.2 ⟨hk,by rw[hr];rfl⟩)
     rw[ho']
     exact hc
   ·rename_i hv
    have:=segs_ok hcr (acc:=i::acc) (fun j hj=>by
     rcases List.mem_cons.1 hj with rfl|hj
     ·exact⟨o,ho,by simpa using hv⟩
     ·exact ha j hj) h
    rw[List.reverse_cons,List.append_assoc]at this
    exact this
def WLT (C:Cx) (ops:Array Oper) (S:List Seg) (Q:St->Prop):Option St->Prop
 |some st=>WSS C ops Q S st
 |none=>False
theorem vp_loose {id:Nat} {l:List Nat} {S:List Seg} (h:rootsOf C.P ops=l) (hl:looseR C.mu ops=true) (hS:segsI ops (ordI ops) []=S) (hcr:copyR ops=false) (k:WLT C ops S (R .normal) (frzAll st ((l.map st.tmp).filter ownRef))):WP C (.region id ops true) st R:=by
 cases h0:frzAll st ((l.map st.tmp).filter ownRef) with
 |none=>rw[h0]at k;exact k.elim
 |some st0=>
  rw[h0]at k
  subst hS
  obtain⟨n,s,h1,q⟩:=segs_ok hcr (acc:=[]) (fun i hi=>by cases hi) k
  have h1:execC C.P (callN C.P C.X C.mu C.good n) C.mu ops (ordI ops) st0=some s:=h1
  refine⟨n+1,.normal,s,?_,q⟩
  have hp:preFrz C.P true ops st=some st0:=by
   unfold preFrz
   rw[if_pos rfl,h,h0]
  unfold exec
  dsimp only
  rw[hp]
  dsimp only
  rw[hl]
  simp only[Bool.and_self,if_true]
  rw[execC_mono (callN_mono C.X (Nat.le_succ n)) h1]
theorem wlt_some {S:List Seg}:WLT C ops S Q (some st)=WSS C ops Q S st:=_root_.id rfl
theorem wlt_congr {S:List Seg} {x y:Option St} (h:x=y):WLT C ops S Q x=WLT C ops S Q y:=by rw[h]
theorem wss_last {l:List Oper} {is:List Nat} {S:List Seg}:WSS C l.toArray Q ((is,none)::S) st=WX C l.toArray (ats l is) st Q:=_root_.id rfl
theorem wss_cons {l:List Oper} {is ck:List Nat} {i:Nat} {S:List Seg}:WSS C l.toArray Q ((is,some (i,ck))::S) st=WX C l.toArray (ats l is) st (WSA C l.toArray Q i ck S):=_root_.id rfl
theorem wsa_go {l:List Oper} {ck:List Nat} {i:Nat} {S:List Seg}:WSA C l.toArray Q i ck S st=WX C l.toArray (ats l [i]) st (WSB C l.toArray Q ck S st):=_root_.id rfl
theorem wsb_go {ck:List Nat} {S:List Seg} {s1:St}:WSB C ops Q ck S s1 st=CKL C ops s1 st (WSS C ops Q S) ck:=_root_.id rfl
theorem wss_congr {S:List Seg} {st':St} (h:st=st'):WSS C ops Q S st=WSS C ops Q S st':=by rw[h]
theorem wx_congr {l l':List Oper} (h:l=l'):WX C ops l st Q=WX C ops l' st Q:=by rw[h]
theorem wx_cons {o:Oper} {l:List Oper}:WX C ops (o::l) st Q=WO C false ops (o::l) st Q:=_root_.id rfl
theorem wx_nil:WX C ops [] st Q=Q st:=vo_nil
theorem ats_nil {os:List Oper}:ats os []=[]:=_root_.id rfl
theorem ats_cons {os:List Oper} {i:Nat} {r:List Nat}:ats os (i::r)=ats1 os[i]? (ats os r):=_root_.id rfl
theorem ats1_some {o:Oper} {l:List Oper}:ats1 (some o) l=o::l:=_root_.id rfl
theorem ckl_nil {s1 s2:St} {K:St->Prop}:CKL C ops s1 s2 K []=K s2:=_root_.id rfl
theorem ckl_cons {l:List Oper} {s1 s2:St} {k:Nat} {r:List Nat} {K:St->Prop}:CKL C l.toArray s1 s2 K (k::r)=CK1 C l.toArray s1 s2 K l[k]? r:=_root_.id rfl
theorem ckq_go {s1 s2:St} {t:Nat} {r:List Nat} {K:St->Prop}:CKQ C ops s1 s2 K t r st=(SameT (st.tmp t) (s2.tmp t) (s1.tmp t)/\CKL C ops s1 s2 K r):=_root_.id rfl
theorem ckl_congr {s1 s2:St} {L:List Nat} {K:St->Prop} {x:St} (h:s1=x):CKL C ops s1 s2 K L=CKL C ops x s2 K L:=by rw[h]
theorem ck1_congr {s1 s2:St} {K:St->Prop} {r:List Nat} {x y:Option Oper} (h:x=y):CK1 C ops s1 s2 K x r=CK1 C ops s1 s2 K y r:=by rw[h]
theorem ck1_some {s1 s2:St} {K:St->Prop} {r:List Nat} {t:Nat} {op:Op} {ty:TypeId} {pos:String} {af:Array Edge} {g:Option (Nat×Bool)}:CK1 C ops s1 s2 K (some ⟨some t,op,ty,pos,af,g⟩) r=WO C false ops [⟨some t,op,ty,pos,af,g⟩] s2 (CKQ C ops s1 s2 K t r):=_root_.id rfl
def WXC (C:Cx) (ops:Array Oper):List Oper->St->(St->Prop)->Prop
 | [],st,Q=>Q st
 |o::l,st,Q=>if spcB o then (match valX C.P st o.op with
   |some v=>WXC C ops l (st.putO o.dst v) Q
   |none=>False) else WO C false ops [o] st fun s=>WXC C ops l s Q
def WXV (C:Cx) (ops:Array Oper) (l:List Oper) (dst:Option Nat) (st:St) (Q:St->Prop):Option TV->Prop
 |some v=>WXC C ops l (st.putO dst v) Q
 |none=>False
def WXK (C:Cx) (ops:Array Oper) (l:List Oper) (Q:St->Prop) (s:St):Prop:=WXC C ops l s Q
theorem wxc_mono : ∀ {l:List Oper} {st:St} {Q Q':St->Prop},(∀s,Q s->Q' s)->WXC C ops l st Q->WXC C ops l st Q'
 | [],_,_,_,hq,h=>hq _ h
 |o::l,st,Q,Q',hq,h=>by
  unfold WXC at h ⊢
  split
  ·rename_i hs
   rw[if_pos hs]at h
   split at h
   ·exact wxc_mono hq h
   ·exact h.elim
  ·rename_i hs
   rw[if_neg hs]at h
   obtain⟨n,s,h1,q⟩:=h
   exact⟨n,s,h1,wxc_mono hq q⟩
theorem wxc_nl (h:WXC C ops [] st Q):Q st:=h
theorem wxc_cons (hcr:copyR ops=true) {o:Oper} {l:List Oper} (h:WXC C ops (o::l) st Q) : ∃n s1,stepC C.P (callN C.P C.X C.mu C.good n) C.mu ops o st=some s1/\WXC C ops l s1 Q:=by
 unfold WXC at h
 cases hs:spcB o with
 |true=>
  rw[hs,if_pos rfl]at h
  split at h
  ·rename_i v hv
   refine⟨0,_,?_,h⟩
   unfold stepC stepX
   rw[hcr,hs,Bool.and_self,if_pos rfl,hv]
  ·exact h.elim
 |false=>
  rw[hs,if_neg (by simp)]at h
  obtain⟨n,s1,h1,h2⟩:=wo_consO h
  refine⟨n,s1,?_,wo_nil h2⟩
  unfold stepC
  rw[hs,Bool.and_false,if_neg (by simp)]
  exact h1
def CLD (C:Cx) (ops:Array Oper) (s1 s2:St) (K:St->Prop):List Nat->Prop
 | []=>K s2
 |k::r=>match ops.toList[k]? with
  |some o=>match o.dst with
   |some t=>WXC C ops [o] s2 (fun s=>SameT (s.tmp t) (s2.tmp t) (s1.tmp t)/\CLD C ops s1 s2 K r)
   |none=>False
  |none=>False
def CQD (C:Cx) (ops:Array Oper) (s1 s2:St) (K:St->Prop) (t:Nat) (r:List Nat) (s:St):Prop:=SameT (s.tmp t) (s2.tmp t) (s1.tmp t)/\CLD C ops s1 s2 K r
def C1D (C:Cx) (ops:Array Oper) (s1 s2:St) (K:St->Prop) (o:Option Oper) (r:List Nat):Prop:=match o with
 |some o=>match o.dst with
  |some t=>WXC C ops [o] s2 (CQD C ops s1 s2 K t r)
  |none=>False
 |none=>False
def WSD (C:Cx) (ops:Array Oper) (Q:St->Prop):List Seg->St->Prop
 | [],_=>False
 |(is,none)::_,st=>WXC C ops (ats ops.toList is) st Q
 |(is,some (i,ck))::S,st=>WXC C ops (ats ops.toList is) st fun s1=>WXC C ops (ats ops.toList [i]) s1 fun s2=>CLD C ops s1 s2 (WSD C ops Q S) ck
def WBD (C:Cx) (ops:Array Oper) (Q:St->Prop) (ck:List Nat) (S:List Seg) (s1 s2:St):Prop:=CLD C ops s1 s2 (WSD C ops Q S) ck
def WAD (C:Cx) (ops:Array Oper) (Q:St->Prop) (i:Nat) (ck:List Nat) (S:List Seg) (s1:St):Prop:=WXC C ops (ats ops.toList [i]) s1 (WBD C ops Q ck S s1)
theorem wsc_lightD (hcr:copyR ops=true) : ∀ {is r:List Nat} {st:St},(∀i∈is,∃o,ops[i]?=some o/\heavyO ops o=false)->WXC C ops (ats ops.toList is) st (fun s=>WSC C ops r s Q)->WSC C ops (is++r) st Q
 | [],r,st,_,h=>wxc_nl h
 |i::is,r,st,hl,h=>by
  obtain⟨o,ho,hh⟩:=hl i List.mem_cons_self
  unfold ats at h
  rw[opl,ho]at h
  obtain⟨n,s1,h1,h2⟩:=wxc_cons hcr h
  refine wsc_of ho h1 ?_ (wsc_lightD hcr (fun j hj=>hl j (List.mem_cons_of_mem _ hj)) h2)
  rw[loose_light ho hh]
  rfl
theorem cld_ok (hcr:copyR ops=true) {s1 s2:St} {K:St->Prop} : ∀ {ck:List Nat},(∀k∈ck,∀o,ops[k]?=some o->lookU ops o=true)->CLD C ops s1 s2 K ck->(∀k∈ck,∃o,ops[k]?=some o/\ckOne C.P ops s1 s2 o=true)/\K s2
 | [],_,h=>⟨fun k hk=>(by cases hk),h⟩
 |k::r,hl,h=>by
  unfold CLD at h
  rw[opl]at h
  cases ho:ops[k]? with
  |none=>rw[ho]at h;exact h.elim
  |some o=>
   rw[ho]at h
   dsimp only at h
   cases hd:o.dst with
   |none=>rw[hd]at h;exact h.elim
   |some t=>
    rw[hd]at h
    obtain⟨n,s,h1,h2⟩:=wxc_cons hcr h
    obtain⟨⟨e1,e2,e3⟩,h5⟩:=wxc_nl h2
    have hlo:=lookU_light (hl k List.mem_cons_self o ho)
    have h1':=light_call (call':=fun _ _=>none) (mu':=fun _=>false) hlo h1
    obtain⟨a,b⟩:=cld_ok hcr (fun j hj=>hl j (List.mem_cons_of_mem _ hj)) h5
    refine⟨fun j hj => ?_,b⟩
    rcases List.mem_cons.1 hj with rfl|hj
    ·refine⟨o,ho,?_⟩
     unfold ckOne
     rw[hd,h1']
     dsimp only
     rw[<- e2,<- e1,e3]
     rfl
    ·exact a j hj
theorem segs_okD (hcr:copyR ops=true) {Q:St->Prop} : ∀ {L acc:List Nat} {st:St},(∀i∈acc,∃o,ops[i]?=some o/\heavyO ops o=false)->WSD C ops Q (segsI ops L acc) st->WSC C ops (acc.reverse++L) st Q
 | [],acc,st,ha,h=>by
  unfold segsI WSD at h
  exact wsc_lightD hcr (fun i hi=>ha i (List.mem_reverse.1 hi)) (wxc_mono (fun s q=>⟨0,s,rfl,q⟩) h)
 |i::r,acc,st,ha,h=>by
  unfold segsI at h
  cases ho:ops[i]? with
  |none=>rw[ho]at h;exact h.elim
  |some o=>
   rw[ho]at h
   dsimp only at h
   split at h
   ·unfold WSD at h
    refine wsc_lightD hcr (fun i hi=>ha i (List.mem_reverse.1 hi)) (wxc_mono (fun s1 h => ?_) h)
    unfold ats at h
    rw[opl,ho]at h
    obtain⟨n2,s2,h2,h⟩:=wxc_cons hcr h
    have h:=wxc_nl h
    obtain⟨c1,c2⟩:=cld_ok hcr (fun k hk o' ho'=>by
     obtain⟨_,p,hp,hu,_⟩:=loose_parts ho (List.mem_filter.1 hk).1
     rw[ho']at hp
     cases hp
     exact hu) h
    refine wsc_of ho h2 ?_ (segs_okD hcr (acc:=[]) (fun i hi=>by cases hi) c2)
    refine List.all_eq_true.2 fun k hk => ?_
    cases hr:r.contains k with
    |true=>rfl
    |false=>
     obtain⟨o',ho',hc⟩:=c1 k (List.mem_filter.2 ⟨hk,by rw[hr];rfl⟩)
     rw[ho']
     exact hc
   ·rename_i hv
    have:=segs_okD hcr (acc:=i::acc) (fun j hj=>by
     rcases List.mem_cons.1 hj with rfl|hj
     ·exact⟨o,ho,by simpa using hv⟩
     ·exact ha j hj) h
    rw[List.reverse_cons,List.append_assoc]at this
    exact this
def WLD (C:Cx) (ops:Array Oper) (S:List Seg) (Q:St->Prop):Option St->Prop
 |some st=>WSD C ops Q S st
 |none=>False
theorem vp_looseD {id:Nat} {l:List Nat} {S:List Seg} (h:rootsOf C.P ops=l) (hl:looseR C.mu ops=true) (hS:segsI ops (ordI ops) []=S) (hcr:copyR ops=true) (k:WLD C ops S (R .normal) (frzAll st ((l.map st.tmp).filter ownRef))):WP C (.region id ops true) st R:=by
 cases h0:frzAll st ((l.map st.tmp).filter ownRef) with
 |none=>rw[h0]at k;exact k.elim
 |some st0=>
  rw[h0]at k
  subst hS
  obtain⟨n,s,h1,q⟩:=segs_okD hcr (acc:=[]) (fun i hi=>by cases hi) k
  have h1:execC C.P (callN C.P C.X C.mu C.good n) C.mu ops (ordI ops) st0=some s:=h1
  refine⟨n+1,.normal,s,?_,q⟩
  have hp:preFrz C.P true ops st=some st0:=by
   unfold preFrz
   rw[if_pos rfl,h,h0]
  unfold exec
  dsimp only
  rw[hp]
  dsimp only
  rw[hl]
  simp only[Bool.and_self,if_true]
  rw[execC_mono (callN_mono C.X (Nat.le_succ n)) h1]
theorem wld_some {S:List Seg}:WLD C ops S Q (some st)=WSD C ops Q S st:=_root_.id rfl
theorem wld_congr {S:List Seg} {x y:Option St} (h:x=y):WLD C ops S Q x=WLD C ops S Q y:=by rw[h]
theorem wsd_last {l:List Oper} {is:List Nat} {S:List Seg}:WSD C l.toArray Q ((is,none)::S) st=WXC C l.toArray (ats l is) st Q:=_root_.id rfl
theorem wsd_cons {l:List Oper} {is ck:List Nat} {i:Nat} {S:List Seg}:WSD C l.toArray Q ((is,some (i,ck))::S) st=WXC C l.toArray (ats l is) st (WAD C l.toArray Q i ck S):=_root_.id rfl
theorem wad_go {l:List Oper} {ck:List Nat} {i:Nat} {S:List Seg}:WAD C l.toArray Q i ck S st=WXC C l.toArray (ats l [i]) st (WBD C l.toArray Q ck S st):=_root_.id rfl
theorem wbd_go {ck:List Nat} {S:List Seg} {s1:St}:WBD C ops Q ck S s1 st=CLD C ops s1 st (WSD C ops Q S) ck:=_root_.id rfl
theorem wsd_congr {S:List Seg} {st':St} (h:st=st'):WSD C ops Q S st=WSD C ops Q S st':=by rw[h]
theorem cld_nil {s1 s2:St} {K:St->Prop}:CLD C ops s1 s2 K []=K s2:=_root_.id rfl
theorem cld_cons {l:List Oper} {s1 s2:St} {k:Nat} {r:List Nat} {K:St->Prop}:CLD C l.toArray s1 s2 K (k::r)=C1D C l.toArray s1 s2 K l[k]? r:=_root_.id rfl
theorem cqd_go {s1 s2:St} {t:Nat} {r:List Nat} {K:St->Prop}:CQD C ops s1 s2 K t r st=(SameT (st.tmp t) (s2.tmp t) (s1.tmp t)/\CLD C ops s1 s2 K r):=_root_.id rfl
theorem cld_congr {s1 s2:St} {L:List Nat} {K:St->Prop} {x:St} (h:s1=x):CLD C ops s1 s2 K L=CLD C ops x s2 K L:=by rw[h]
theorem c1d_congr {s1 s2:St} {K:St->Prop} {r:List Nat} {x y:Option Oper} (h:x=y):C1D C ops s1 s2 K x r=C1D C ops s1 s2 K y r:=by rw[h]
theorem c1d_some {s1 s2:St} {K:St->Prop} {r:List Nat} {t:Nat} {op:Op} {ty:TypeId} {pos:String} {af:Array Edge} {g:Option (Nat×Bool)}:C1D C ops s1 s2 K (some ⟨some t,op,ty,pos,af,g⟩) r=WXC C ops [⟨some t,op,ty,pos,af,g⟩] s2 (CQD C ops s1 s2 K t r):=_root_.id rfl
theorem wxc_congr {l l':List Oper} (h:l=l'):WXC C ops l st Q=WXC C ops l' st Q:=by rw[h]
theorem wxv_congr {l:List Oper} {dst:Option Nat} {x y:Option TV} (h:x=y):WXV C ops l dst st Q x=WXV C ops l dst st Q y:=by rw[h]
theorem wxv_some {l:List Oper} {dst:Option Nat} {v:TV}:WXV C ops l dst st Q (some v)=WXC C ops l (st.putO dst v) Q:=_root_.id rfl
theorem wxk_go {l:List Oper}:WXK C ops l Q st=WXC C ops l st Q:=_root_.id rfl
theorem wxc_nil:WXC C ops [] st Q=Q st:=_root_.id rfl
section
variable {l:List Oper} {dst:Option Nat} {ty:TypeId} {pos:String} {af:Array Edge} {g:Option (Nat×Bool)}
theorem wxc_lit {t:TypeId}:WXC C ops (⟨dst,.buildSlice t 0 #[],ty,pos,af,none⟩::l) st Q=WXV C ops l dst st Q (valX C.P st (.buildSlice t 0 #[])):=by
 show (if spcB _=true then WXV C ops l dst st Q (valX C.P st _) else _)=_
 exact if_pos rfl
theorem wxc_app {c:Array Operand} {ts:Array TypeId}:WXC C ops (⟨dst,.call { callee := .builtin .append,args:=c,argTypes:=ts },ty,pos,af,none⟩::l) st Q=WXV C ops l dst st Q (valX C.P st (.call { callee := .builtin .append,args:=c,argTypes:=ts })):=by
 show (if spcB _=true then WXV C ops l dst st Q (valX C.P st _) else _)=_
 exact if_pos rfl
theorem wxc_go {o:Oper} (h:spcB o=false):WXC C ops (o::l) st Q=WO C false ops [o] st (WXK C ops l Q):=by
 show (if spcB o=true then _ else _)=_
 exact if_neg (by rw[h];simp)
theorem wxc_move {x:Operand}:WXC C ops (⟨dst,.move x,ty,pos,af,g⟩::l) st Q=WO C false ops [⟨dst,.move x,ty,pos,af,g⟩] st (WXK C ops l Q):=wxc_go rfl
theorem wxc_assign {x:Operand}:WXC C ops (⟨dst,.assign x,ty,pos,af,g⟩::l) st Q=WO C false ops [⟨dst,.assign x,ty,pos,af,g⟩] st (WXK C ops l Q):=wxc_go rfl
theorem wxc_load {t:TypeId} {x:Operand}:WXC C ops (⟨dst,.load t x,ty,pos,af,g⟩::l) st Q=WO C false ops [⟨dst,.load t x,ty,pos,af,g⟩] st (WXK C ops l Q):=wxc_go rfl
theorem wxc_store {t:TypeId} {x y:Operand}:WXC C ops (⟨dst,.store t x y,ty,pos,af,g⟩::l) st Q=WO C false ops [⟨dst,.store t x y,ty,pos,af,g⟩] st (WXK C ops l Q):=wxc_go rfl
theorem wxc_alloc {t:TypeId}:WXC C ops (⟨dst,.alloc t,ty,pos,af,g⟩::l) st Q=WO C false ops [⟨dst,.alloc t,ty,pos,af,g⟩] st (WXK C ops l Q):=wxc_go rfl
theorem wxc_build {t:TypeId} {ps:Array (Nat×Operand)}:WXC C ops (⟨dst,.build t ps,ty,pos,af,none⟩::l) st Q=WXV C ops l dst st Q (valX C.P st (.build t ps)):=by
 show (if spcB _=true then WXV C ops l dst st Q (valX C.P st _) else _)=_
 exact if_pos rfl
theorem wxc_fieldAddr {a b c:_}:WXC C ops (⟨dst,.fieldAddr a b c,ty,pos,af,g⟩::l) st Q=WO C false ops [⟨dst,.fieldAddr a b c,ty,pos,af,g⟩] st (WXK C ops l Q):=wxc_go rfl
theorem wxc_field {a b c:_}:WXC C ops (⟨dst,.field a b c,ty,pos,af,g⟩::l) st Q=WO C false ops [⟨dst,.field a b c,ty,pos,af,g⟩] st (WXK C ops l Q):=wxc_go rfl
theorem wxc_index {a b c:_}:WXC C ops (⟨dst,.index a b c,ty,pos,af,g⟩::l) st Q=WO C false ops [⟨dst,.index a b c,ty,pos,af,g⟩] st (WXK C ops l Q):=wxc_go rfl
theorem wxc_indexAddr {a b c:_}:WXC C ops (⟨dst,.indexAddr a b c,ty,pos,af,g⟩::l) st Q=WO C false ops [⟨dst,.indexAddr a b c,ty,pos,af,g⟩] st (WXK C ops l Q):=wxc_go rfl
theorem wxc_extract {a b:_}:WXC C ops (⟨dst,.extract a b,ty,pos,af,g⟩::l) st Q=WO C false ops [⟨dst,.extract a b,ty,pos,af,g⟩] st (WXK C ops l Q):=wxc_go rfl
theorem wxc_nilCheck {x:Operand}:WXC C ops (⟨dst,.nilCheck x,ty,pos,af,g⟩::l) st Q=WO C false ops [⟨dst,.nilCheck x,ty,pos,af,g⟩] st (WXK C ops l Q):=wxc_go rfl
theorem wxc_bin {a b c e f:_}:WXC C ops (⟨dst,.binOp a b c e f,ty,pos,af,g⟩::l) st Q=WO C false ops [⟨dst,.binOp a b c e f,ty,pos,af,g⟩] st (WXK C ops l Q):=wxc_go rfl
theorem wxc_len {c:Array Operand} {ts:Array TypeId}:WXC C ops (⟨dst,.call { callee := .builtin .len,args:=c,argTypes:=ts },ty,pos,af,g⟩::l) st Q=WO C false ops [⟨dst,.call { callee := .builtin .len,args:=c,argTypes:=ts },ty,pos,af,g⟩] st (WXK C ops l Q):=wxc_go rfl
end
theorem st_ptr {d g o:Nat}:SameT (.ptr d g o) (.ptr d g o) (.ptr d g o)=True:=eq_true ⟨rfl,rfl,by simp[sameTV,Nat.beq_refl]⟩
theorem st_ref {d g a b c:Nat}:SameT (.ref d g a b c) (.ref d g a b c) (.ref d g a b c)=True:=eq_true ⟨rfl,rfl,by simp[sameTV,Nat.beq_refl]⟩
theorem st_rfc {d g a b c e:Nat}:SameT (.rfc d g a b c e) (.rfc d g a b c e) (.rfc d g a b c e)=True:=eq_true ⟨rfl,rfl,by simp[sameTV,Nat.beq_refl]⟩
theorem st_nil:SameT .nil .nil .nil=True:=eq_true ⟨rfl,rfl,rfl⟩
theorem st_emp:SameT .emp .emp .emp=True:=eq_true ⟨rfl,rfl,rfl⟩
theorem st_agg {cs:List SV} (h:sameL cs cs=true):SameT (.sv (.agg cs)) (.sv (.agg cs)) (.sv (.agg cs))=True:=eq_true ⟨rfl,rfl,by simp[sameTV,sameSV,h]⟩
theorem st_skip:SameT .skip .skip .skip=True:=eq_true ⟨rfl,rfl,rfl⟩
theorem st_int {k:IntKind} {n:Int}:SameT (.sv (.int k n)) (.sv (.int k n)) (.sv (.int k n))=True:=eq_true ⟨rfl,rfl,by simp[sameTV,sameSV]⟩
theorem st_bool {b:Bool}:SameT (.sv (.bool b)) (.sv (.bool b)) (.sv (.bool b))=True:=eq_true ⟨rfl,rfl,by simp[sameTV,sameSV]⟩
theorem st_str {s:ByteArray}:SameT (.sv (.str s)) (.sv (.str s)) (.sv (.str s))=True:=eq_true ⟨rfl,rfl,by simp[sameTV,sameSV]⟩
theorem st_sl {n:Nat} {cs:List SV} (h:sameL cs cs=true):SameT (.sv (.sl n cs)) (.sv (.sl n cs)) (.sv (.sl n cs))=True:=eq_true ⟨rfl,rfl,by simp[sameTV,sameSV,h]⟩
end
end Go.Ev
namespace Go.Ev
section
variable {C:Cx} {soft:Bool} {ops:Array Oper} {l:List Oper} {st:St} {Q:St->Prop} {R:Ex->St->Prop} {d:Nat} {dst:Option Nat}
def RQ (P:Program) (rs:List ResultVar) (r:SV) (e:Ex) (st:St):Prop:=match e with
 | .exit _=>False
 | .goto _=>False
 |_=>retOf P st rs=some (.sv r)
def RO (st:St) (r:SV) (v:TV):Prop:=outSV st v=some r
def RC (sh:Option (Bool×Nat)) (r:SV) (cs:Option (List SV)):Prop:=match sh,cs with
 |some sh,some cs=>loadC sh cs=some r
 |_,_=>False
def RV (P:Program) (st:St) (r:SV):ResultVar->Prop
 | .tmp t=>RO st r (st.tmp t)
 | .cell a t=>RC (shp P t) r (match st.tmp a with | .ptr d g off=>(st.obj d g).map (·.drop off)|_=>none)
theorem rv_iff {P:Program} {rv:ResultVar} {r:SV}:RV P st r rv ↔ ∃v,resTV P st rv=some v/\outSV st v=some r:=by
 cases rv with
 |tmp t=>simp[RV,RO,resTV]
 |cell a t=>
  unfold RV RC resTV
  constructor
  ·intro h
   dsimp only at h
   split at h
   ·rename_i sh cs hsh hcs
    split at hcs
    ·rename_i d g off ht
     cases ho:st.obj d g with
     |none=>rw[ho]at hcs;cases hcs
     |some cs' =>
      rw[ho]at hcs
      cases hcs
      refine⟨.sv r,?_,rfl⟩
      have h':loadC sh (cs'.drop off)=some r:=h
      simp only[hsh,ht,ho,h',Option.map_some]
    ·cases hcs
   ·exact h.elim
  ·rintro⟨v,h,k⟩
   simp only at h ⊢
   split at h
   ·rename_i sh d g off hsh ht
    rw[hsh,ht]
    split at h
    ·rename_i cs hcs
     simp only[hcs,Option.map_some]
     cases hl:loadC sh (cs.drop off) with
     |none=>rw[hl]at h;cases h
     |some s=>
      rw[hl]at h
      cases h
      cases k
      rfl
    ·cases h
   ·cases h
theorem rq_one {P:Program} {rv:ResultVar} {r:SV}:RQ P [rv] r .ret st=RV P st r rv:=by
 refine propext (Iff.trans ?_ rv_iff.symm)
 show retOf P st [rv]=_↔_
 unfold retOf
 simp only
 constructor
 ·intro h
  split at h
  ·rename_i d g e
   split at h
   ·cases ho:st.obj d g with
    |none=>rw[ho]at h;cases h
    |some cs=>rw[ho]at h;cases h
   ·split at h
    ·split at h
     ·split at h<;>cases h
     ·cases h
    ·cases h
  ·rename_i v _ e
   cases ho:outSV st v with
   |none=>rw[ho]at h;cases h
   |some s=>rw[ho]at h;cases h;exact⟨v,e,ho⟩
  ·cases h
 ·rintro⟨v,e,h⟩
  split
  ·rename_i d g e'
   rw[e]at e'
   cases e'
   simp[outSV]at h
  ·rename_i u _ e'
   rw[e]at e'
   cases e'
   rw[h]
   rfl
  ·rename_i e'
   rw[e]at e'
   cases e'
theorem res_iff {P:Program} {rv:ResultVar} {rs:List ResultVar} {x:SV} {l:List SV}:resSVs P st (rv::rs)=some (x::l)↔RV P st x rv/\resSVs P st rs=some l:=by
 rw[rv_iff]
 conv=>lhs;unfold resSVs
 constructor
 ·intro h
  split at h
  ·rename_i v l' hv hl
   split at h
   ·rename_i s hs
    cases h
    exact⟨⟨v,hv,hs⟩,hl⟩
   ·cases h
  ·cases h
 ·rintro⟨⟨v,hv,hs⟩,hl⟩
  rw[hv,hl]
  simp only[hs]
theorem rq_two {P:Program} {a b:ResultVar} {x y:SV}:RQ P [a,b] (.tup [x,y]) .ret st=(RV P st x a/\RV P st y b):=by
 have e:RQ P [a,b] (.tup [x,y]) .ret st↔resSVs P st [a,b]=some [x,y]:=by
  show Option.map _ _=_↔_
  cases resSVs P st [a,b]<;>simp
 rw[propext e,propext res_iff,propext res_iff]
 simp[resSVs]
theorem rq_three {P:Program} {a b c:ResultVar} {x y z:SV}:RQ P [a,b,c] (.tup [x,y,z]) .ret st=(RV P st x a/\RV P st y b/\RV P st z c):=by
 have e:RQ P [a,b,c] (.tup [x,y,z]) .ret st↔resSVs P st [a,b,c]=some [x,y,z]:=by
  show Option.map _ _=_↔_
  cases resSVs P st [a,b,c]<;>simp
 rw[propext e,propext res_iff,propext res_iff,propext res_iff]
 simp[resSVs]
theorem rq_four {P:Program} {a b c d:ResultVar} {x y z u:SV}:RQ P [a,b,c,d] (.tup [x,y,z,u]) .ret st=(RV P st x a/\RV P st y b/\RV P st z c/\RV P st u d):=by
 have e:RQ P [a,b,c,d] (.tup [x,y,z,u]) .ret st↔resSVs P st [a,b,c,d]=some [x,y,z,u]:=by
  show Option.map _ _=_↔_
  cases resSVs P st [a,b,c,d]<;>simp
 rw[propext e,propext res_iff,propext res_iff,propext res_iff,propext res_iff]
 simp[resSVs]
theorem rv_tmp {P:Program} {r:SV} {t:Nat}:RV P st r (.tmp t)=RO st r (st.tmp t):=_root_.id rfl
theorem rv_cell {P:Program} {r:SV} {a:Nat} {t:TypeId}:RV P st r (.cell a t)=RC (shp P t) r (match st.tmp a with | .ptr d g off=>(st.obj d g).map (·.drop off)|_=>none):=_root_.id rfl
theorem rc_some {sh:Bool×Nat} {r:SV} {cs:List SV}:RC (some sh) r (some cs)=(loadC sh cs=some r):=_root_.id rfl
theorem ro_sv {s r:SV}:RO st r (.sv s)=(s=r):=by simp[RO,outSV]
theorem ro_nil {r:SV}:RO st r .nil=(.sl 0 []=r):=by simp[RO,outSV]
theorem ro_ref {g size off n:Nat} {cs:List SV} {r:SV} (hd:d<N0) (h:st.obj d g=some cs) (k : .sl n ((cs.drop off).take (n*size))=r):RO st r (.ref d g size off n):=by
 simp[RO,outSV,hd,h,k]
theorem stq_sv {args:List SV}:stq (args.map Arg.sv)=none:=by
 cases args with
 |nil=>rfl
 |cons a r=>cases r<;>rfl
theorem Fn.intro {f:FuncId} {fn:Func} {body:Code} {args:List SV} {r:SV} (hf:C.P.funcs[f]?=some fn) (hok:C.good f=true) (hb:fn.body=some body) (hX : ∀ars,C.X f ars=none) (hl:args.length<=fn.ntmps)
  (h:WP C body (argSt (args.map Arg.sv)) (RQ C.P fn.results.toList r)):Fn C f args r:=by
 obtain⟨n,e,st,he,hq⟩:=h
 refine⟨n+1,expOf st (args.map Arg.sv),?_⟩
 have hm:exec C.P (callN C.P C.X C.mu C.good n) C.mu n body (argSt (args.map Arg.sv))=some (e,st):=he
 unfold callN
 rw[stq_sv,hX]
 simp only[hf,hok,hb,if_true]
 rw[if_pos (by simpa using hl),hm]
 cases e with
 |exit i=>exact hq.elim
 |goto i=>exact hq.elim
 |normal=>show Option.map _ (retOf C.P st fn.results.toList)=_;rw[show retOf C.P st fn.results.toList=some (.sv r) from hq];rfl
 |ret=>show Option.map _ (retOf C.P st fn.results.toList)=_;rw[show retOf C.P st fn.results.toList=some (.sv r) from hq];rfl
theorem tmp_arg {args:List Arg} {t:Nat}:(argSt args).tmp t=(match args[t]? with
   |some (.sv s) => .sv s
   |some (.imp _) => .ptr (N0+t) 0 0
   |some (.impref _ size off n) => .ref (N0+t) 0 size off n
   |some (.st _ _ _) => .undef
   |none => .undef):=_root_.id rfl
theorem hob_arg {args:List Arg} {g:Nat}:(argSt args).hob d g=none:=_root_.id rfl
theorem up_arg {args:List Arg} {t:Nat}:(argSt args).up t = .undef:=_root_.id rfl
theorem gen_arg {args:List Arg}:(argSt args).gen d=if 1000000<=d then 1 else 0:=_root_.id rfl
theorem obj_arg {args:List Arg} {g:Nat}:(argSt args).obj d g=if 1000000<=d/\g=0 then (match args[d-1000000]? with
   |some (.imp cs)=>some cs
   |some (.impref cs _ _ _)=>some cs
   |_=>none) else none:=_root_.id rfl
theorem cst_bool {b:Bool}:cst (.bool b) = .sv (.bool b):=_root_.id rfl
theorem cst_int {k:IntKind} {n:Int}:cst (.int k n) = .sv (.int k n):=_root_.id rfl
theorem cst_str {s:ByteArray}:cst (.string s) = .sv (.str s):=_root_.id rfl
theorem cst_ptr:cst (.pointer none) = .sv (.con (.pointer none)):=_root_.id rfl
theorem cst_iface:cst .nilIface = .sv (.con .nilIface):=_root_.id rfl
theorem cst_nil:cst (.slice none 0 0) = .nil:=_root_.id rfl
theorem gdst_nil {j:Nat}:gdst #[] j=none:=_root_.id rfl
theorem gdst_zero {o:Oper} {l:List Oper}:gdst (o::l).toArray 0=o.dst:=_root_.id rfl
theorem gdst_succ {o:Oper} {l:List Oper} {j:Nat}:gdst (o::l).toArray (j+1)=gdst l.toArray j:=by
 simp[gdst]
end
attribute [congr] vt_congr vt2_congr vb_congr vb2_congr vm_congr vm2_congr vo_congr vp_congr vv_congr vs_congr wk_congr wg_congr wg2_congr vr_congr wn_congr wns_congr wl_congr rw_congr rf_congr va_congr vz_congr vy_congr vi_congr vf_congr vc_congr wlt_congr wss_congr wx_congr ckl_congr ck1_congr wld_congr wsd_congr wxc_congr wxv_congr cld_congr c1d_congr
attribute [go_sem] wld_some wsd_last wsd_cons wad_go wbd_go cqd_go wxc_nil wxc_lit wxc_app wxc_move wxc_assign wxc_load wxc_store wxc_alloc wxc_build wxc_fieldAddr wxc_field wxc_index wxc_indexAddr wxc_extract wxc_nilCheck wxc_bin wxc_len wxv_some wxk_go cld_nil cld_cons c1d_some valX wlt_some wss_last wss_cons wsa_go wsb_go ckq_go wx_cons wx_nil ats_nil ats_cons ats1_some ckl_nil ckl_cons ck1_some st_ptr st_ref st_rfc st_nil st_emp st_skip st_int st_bool st_str List.filter_cons List.filter_nil ownRef gdst_nil gdst_zero gdst_succ cst_bool cst_int cst_str cst_nil rq_one rq_two rq_three rq_four rv_tmp rv_cell rc_some ro_sv ro_nil Option.some.injEq vp_seq vp_region vo_nil vo_move vo_assign vo_pick vo_build vo_bin vo_un vo_convert vo_extract vo_field vo_fieldAddr vo_indexAddr idxV vo_slice vo_makeFunc vo_nilCheck vp_label vp_goto sc_normal sc_ret sc_exit nx_goto bk_goto cst_ptr cst_iface nilSV ptrSV vo_guard2 wg2_some wg_tt wg_ff wg_tf wg_ft wg_skip vo_len vo_min vo_max lenV vo_load vo_loadS vo_alloc vo_allocS vo_box vo_makeH vo_makeS vo_lit vo_softlit vo_store vo_storeS vo_append vo_copy vo_cap vo_clear vo_call vp_block vp_scope vp_exit vp_skip vp_ret vp_cond
 va_some va_none va_noneS vz_some vy_some frzAll frz_eq tmp_frzd obj_frzd gen_frzd tmp_grow obj_grow gen_grow distinct impIds impArgs expAll
 nx_normal nx_ret nx_exit bk_normal bk_ret bk_exit vb_some vb_none vb2_some vm_some vm_none vm2_some vt_some vt_none vt2_some vv_some vs_some wk_true vc_true vc_false
 putO_some putO_none eval_tmp eval_const eval_func tmp_put obj_put gen_put tmp_new obj_new gen_new tmp_set obj_set gen_set tmp_arg gen_arg obj_arg
 hob_put up_put hob_new up_new hob_set up_set hob_frzd up_frzd hob_grow up_grow tmp_newH obj_newH hob_newH gen_newH up_newH tmp_setH obj_setH gen_setH up_setH hob_setH tmp_enter obj_enter gen_enter hob_enter up_enter tmp_leave up_leave obj_leave gen_leave hob_leave hob_arg up_arg
 slotC_nil slotC_int slotC_sl slotsC slotT isSlV H0 INL rn_ret rf_some frzR_one frzR_nil frzR_two resTs rw_some rl_ret retI resIs resTV optT_some optT_none hget_some List.set_cons_zero List.set_cons_succ
 hard val bldP deskL intSV strSV store loadSt append appendTo copy softLit TV.adr TV.toSV allSV oneAll loadC partC fillC partsSV litC moreOf natTV lenTV loNat hiNat someNat slice3 capTV appendZ clearS TV.noCap sliceV sliceTV binSV unSV cmpSV minSV maxSV splice SV.cells SV.one TV.frz TV.kill
 List.getElem?_cons_zero List.getElem?_cons_succ List.getElem?_nil List.map_cons List.map_nil List.all_cons List.all_nil Bool.and_self Bool.and_true Bool.true_and if_true if_false and_self and_true true_and false_and and_false List.drop_zero List.drop_succ_cons List.length_cons List.length_nil
 List.take_succ_cons List.take_zero List.nil_append List.cons_append List.append_nil Option.map_some Option.map_none Option.isSome_some Option.isSome_none
end Go.Ev
namespace Go.Ev
theorem oa {p:Prop} (h:p:=by first|omega|(simp only[AL,List.length_map];omega)):p:=h
set_option linter.defProp false
def AX:=And.intro AR (And.intro @AL (And.intro @ifT (And.intro @ifF (And.intro @take_all (And.intro @List.length_cons.{0} @List.length_nil.{0})))))
section
variable {C:Cx} {soft:Bool} {ops:Array Oper} {l:List Oper} {st:St} {Q:St->Prop} {R:Ex->St->Prop} {dst:Option Nat}
theorem wki {k:Bool} {s:Option St} (h':WS C soft ops l Q s) (h:k=true:=by kernel_rfl):WK C soft ops l Q k s:=wk_intro h h'
theorem wqn {A B:Prop} (b:B) (h:soloR ops=false:=by kernel_rfl):WQ ops A B:=wq_no h b
theorem vpd (id:Nat) (l:List Nat) (k:WS C true ops ops.toList (R .normal) (frzAll st ((l.map st.tmp).filter ownRef))) (h:rootsOf C.P ops=l:=by kernel_rfl) (hl:looseR C.mu ops=false:=by kernel_rfl):WP C (.region id ops true) st R:=vp_draw h k hl
theorem vpx (l:List Nat) {id:Nat} (k:WS C true ops ops.toList (R .normal) (frzAll st ((l.map st.tmp).filter ownRef))) (h:rootsOf C.P ops=l:=by kernel_rfl) (hl:looseR C.mu ops=false:=by kernel_rfl):WP C (.region id ops true) st R:=vp_draw h k hl
theorem fni {f:FuncId} {args:List SV} {r:SV} (fn:Func) (h:WP C fn.body.get! (argSt (args.map Arg.sv)) (RQ C.P fn.results.toList r)) (hf:C.P.funcs[f]?=some fn:=by kernel_rfl) (hok:C.good f=true:=by kernel_rfl) (hb:fn.body=some fn.body.get!:=by kernel_rfl) (hX : ∀ars,C.X f ars=none:=by exact fun _=>rfl) (hl:args.length<=fn.ntmps:=by exact Nat.le_of_ble_eq_true (by kernel_rfl)):Fn C f args r:=Fn.intro hf hok hb hX hl h
theorem wni {g:FuncId} {vs:List TV} (fn:Func) (h:WP C fn.body.get! (st.enter vs) (RN C ops l dst fn.results.toList Q)) (hf:C.P.funcs[g]?=some fn:=by kernel_rfl) (hok:C.good g=true:=by kernel_rfl) (hb:fn.body=some fn.body.get!:=by kernel_rfl) (hl:vs.length<=fn.ntmps:=by exact Nat.le_of_ble_eq_true (by kernel_rfl)) (hX:C.X g [.st false st vs]=none:=by rfl):WN C ops l dst st Q g vs:=wn_of hf hok hb hl h hX
theorem wli {g:FuncId} {vs:List TV} (fn:Func) (r:SV) (h:WP C fn.body.get! (st.enter vs) (RL C.P fn.results.toList r)) (k:WO C true ops l (st.putO dst (.sv r)) Q) (hw:noW ops=true:=by kernel_rfl) (hf:C.P.funcs[g]?=some fn:=by kernel_rfl) (hok:C.good g=true:=by kernel_rfl) (hb:fn.body=some fn.body.get!:=by kernel_rfl) (hk:lookCode fn.body.get!=true:=by kernel_rfl) (hl:vs.length<=fn.ntmps:=by exact Nat.le_of_ble_eq_true (by kernel_rfl)) (hX:C.X g [.st true st vs]=none:=by rfl):WL C ops l dst st Q g vs:=wl_of r hw hf hok hb hk hl h k hX
theorem vpl (id:Nat) (l:List Nat) (S:List Seg) (k:WLT C ops S (R .normal) (frzAll st ((l.map st.tmp).filter ownRef))) (h:rootsOf C.P ops=l:=by kernel_rfl) (hl:looseR C.mu ops=true:=by kernel_rfl) (hS:segsI ops (ordI ops) []=S:=by kernel_rfl) (hc:copyR ops=false:=by kernel_rfl):WP C (.region id ops true) st R:=vp_loose h hl hS hc k
end
end Go.Ev
namespace Go.Proofs.YtjphnjffglapgaaGreatDoor.F
open Go Go.Ev Go.Proofs
theorem shp_3:shp Proofs.Tryz.prog 3=some (false,1):=by kernel_rfl
theorem isInt_3:isInt Proofs.Tryz.prog 3=some IntKind.i64:=by kernel_rfl
theorem hasTy_3:hasTy Proofs.Tryz.prog 3=true:=by kernel_rfl
theorem shp_4:shp Proofs.Tryz.prog 4=some (false,1):=by kernel_rfl
theorem isBool_4:isBool Proofs.Tryz.prog 4=true:=by kernel_rfl
theorem zok_5:zok Proofs.Tryz.prog 5=true:=by kernel_rfl
theorem isInt_5:isInt Proofs.Tryz.prog 5=some IntKind.u8:=by kernel_rfl
theorem hasTy_5:hasTy Proofs.Tryz.prog 5=true:=by kernel_rfl
theorem shp_9:shp Proofs.Tryz.prog 9=some (false,1):=by kernel_rfl
theorem zer_9:zer Proofs.Tryz.prog 9=some [SV.str { data:={ toList:=[] } }]:=by kernel_rfl
theorem zok_9:zok Proofs.Tryz.prog 9=true:=by kernel_rfl
theorem isStr_9:isStr Proofs.Tryz.prog 9=true:=by kernel_rfl
theorem elm_22:elm Proofs.Tryz.prog 22=some (35,5,72):=by kernel_rfl
theorem isPtr_24:isPtr Proofs.Tryz.prog 24=true:=by kernel_rfl
theorem shp_28:shp Proofs.Tryz.prog 28=some (false,1):=by kernel_rfl
theorem elm_28:elm Proofs.Tryz.prog 28=some (9,1,16):=by kernel_rfl
theorem shp_29:shp Proofs.Tryz.prog 29=some (false,1):=by kernel_rfl
theorem elm_29:elm Proofs.Tryz.prog 29=some (33,1,24):=by kernel_rfl
theorem shp_31:shp Proofs.Tryz.prog 31=some (true,3):=by kernel_rfl
theorem zer_31:zer Proofs.Tryz.prog 31=some [SV.sl 0 [],SV.sl 0 [],SV.int IntKind.i64 0]:=by kernel_rfl
theorem zerB_31:zerB Proofs.Tryz.prog 31=some [SV.con (Value.slice none 0 0),SV.con (Value.slice none 0 0),SV.int IntKind.i64 0]:=by kernel_rfl
theorem plc_31:plc Proofs.Tryz.prog 31=some [(0,1),(1,1),(2,1)]:=by kernel_rfl
theorem fld_31_0:fld Proofs.Tryz.prog 31 0=some (0,28,1):=by kernel_rfl
theorem fld_31_1:fld Proofs.Tryz.prog 31 1=some (1,29,1):=by kernel_rfl
theorem fld_31_2:fld Proofs.Tryz.prog 31 2=some (2,3,1):=by kernel_rfl
theorem shp_33:shp Proofs.Tryz.prog 33=some (false,1):=by kernel_rfl
theorem elm_33:elm Proofs.Tryz.prog 33=some (63,3,56):=by kernel_rfl
theorem zok_33:zok Proofs.Tryz.prog 33=true:=by kernel_rfl
theorem fld_35_0:fld Proofs.Tryz.prog 35 0=some (0,3,1):=by kernel_rfl
theorem fld_35_1:fld Proofs.Tryz.prog 35 1=some (1,9,1):=by kernel_rfl
theorem fld_35_2:fld Proofs.Tryz.prog 35 2=some (2,9,1):=by kernel_rfl
theorem fld_35_3:fld Proofs.Tryz.prog 35 3=some (3,33,1):=by kernel_rfl
theorem fld_35_4:fld Proofs.Tryz.prog 35 4=some (4,3,1):=by kernel_rfl
theorem shp_47:shp Proofs.Tryz.prog 47=some (false,1):=by kernel_rfl
theorem elm_47:elm Proofs.Tryz.prog 47=some (59,2,40):=by kernel_rfl
theorem fld_49_0:fld Proofs.Tryz.prog 49 0=some (0,47,1):=by kernel_rfl
theorem fld_49_1:fld Proofs.Tryz.prog 49 1=some (1,3,1):=by kernel_rfl
theorem shp_59:shp Proofs.Tryz.prog 59=some (true,2):=by kernel_rfl
theorem zer_59:zer Proofs.Tryz.prog 59=some [SV.str { data:={ toList:=[] } },SV.sl 0 []]:=by kernel_rfl
theorem zerB_59:zerB Proofs.Tryz.prog 59=some [SV.str { data:={ toList:=[] } },SV.sl 0 []]:=by kernel_rfl
theorem zok_59:zok Proofs.Tryz.prog 59=true:=by kernel_rfl
theorem plc_59:plc Proofs.Tryz.prog 59=some [(0,1),(1,1)]:=by kernel_rfl
theorem fld_59_0:fld Proofs.Tryz.prog 59 0=some (0,9,1):=by kernel_rfl
theorem fld_59_1:fld Proofs.Tryz.prog 59 1=some (1,33,1):=by kernel_rfl
theorem shp_61:shp Proofs.Tryz.prog 61=some (false,1):=by kernel_rfl
theorem elm_61:elm Proofs.Tryz.prog 61=some (84,1,4):=by kernel_rfl
theorem shp_63:shp Proofs.Tryz.prog 63=some (true,3):=by kernel_rfl
theorem zer_63:zer Proofs.Tryz.prog 63=some [SV.bool false,SV.sl 0 [],SV.sl 0 []]:=by kernel_rfl
theorem zerB_63:zerB Proofs.Tryz.prog 63=some [SV.bool false,SV.sl 0 [],SV.sl 0 []]:=by kernel_rfl
theorem zok_63:zok Proofs.Tryz.prog 63=true:=by kernel_rfl
theorem plc_63:plc Proofs.Tryz.prog 63=some [(0,1),(1,1),(2,1)]:=by kernel_rfl
theorem fld_63_0:fld Proofs.Tryz.prog 63 0=some (0,4,1):=by kernel_rfl
theorem fld_63_1:fld Proofs.Tryz.prog 63 1=some (1,61,1):=by kernel_rfl
theorem fld_63_2:fld Proofs.Tryz.prog 63 2=some (2,61,1):=by kernel_rfl
theorem shp_84:shp Proofs.Tryz.prog 84=some (false,1):=by kernel_rfl
theorem zer_84:zer Proofs.Tryz.prog 84=some [SV.int IntKind.u32 0]:=by kernel_rfl
theorem zok_84:zok Proofs.Tryz.prog 84=true:=by kernel_rfl
theorem isInt_84:isInt Proofs.Tryz.prog 84=some IntKind.u32:=by kernel_rfl
theorem hasTy_84:hasTy Proofs.Tryz.prog 84=true:=by kernel_rfl
theorem isInt_89:isInt Proofs.Tryz.prog 89=some IntKind.u64:=by kernel_rfl
theorem hasTy_89:hasTy Proofs.Tryz.prog 89=true:=by kernel_rfl
theorem elm_107:elm Proofs.Tryz.prog 107=some (5,1,1):=by kernel_rfl
theorem isInt_108:isInt Proofs.Tryz.prog 108=some IntKind.u64:=by kernel_rfl
theorem hasTy_108:hasTy Proofs.Tryz.prog 108=true:=by kernel_rfl
theorem isIface_126:isIface Proofs.Tryz.prog 126=true:=by kernel_rfl
attribute [go_sem] shp_3 isInt_3 hasTy_3 shp_4
attribute [go_sem] isBool_4 zok_5 isInt_5 hasTy_5
attribute [go_sem] shp_9 zer_9 zok_9
attribute [go_sem] isStr_9
attribute [go_sem] elm_22 isPtr_24
attribute [go_sem] shp_28 elm_28 shp_29 elm_29
attribute [go_sem] shp_31 zer_31 zerB_31 plc_31 fld_31_0 fld_31_1 fld_31_2
attribute [go_sem] shp_33 elm_33 zok_33
attribute [go_sem] fld_35_0 fld_35_1 fld_35_2 fld_35_3 fld_35_4
attribute [go_sem] shp_47 elm_47
attribute [go_sem] fld_49_0 fld_49_1
attribute [go_sem] shp_59 zer_59
attribute [go_sem] zerB_59 zok_59 plc_59 fld_59_0 fld_59_1 shp_61 elm_61
attribute [go_sem] shp_63 zer_63 zerB_63 zok_63 plc_63 fld_63_0 fld_63_1 fld_63_2
attribute [go_sem] shp_84 zer_84 zok_84 isInt_84 hasTy_84
attribute [go_sem] isInt_89 hasTy_89
attribute [go_sem] elm_107
attribute [go_sem] isInt_108 hasTy_108
attribute [go_sem] isIface_126
end Go.Proofs.YtjphnjffglapgaaGreatDoor.F
set_option linter.constructorNameAsVariable false
namespace Go.Proofs.YtjphnjffglapgaaGreatDoor
open Go.Ev Go.RowKit Go.WideShapes
theorem u_limbs:Tryz.prog.underlying 61=some (.slice 84):=by kernel_rfl
theorem u_limb:Tryz.prog.underlying 84=some (.int .u32):=by kernel_rfl
theorem u_bool:Tryz.prog.underlying 4=some .bool:=by kernel_rfl
theorem u_int:Tryz.prog.underlying 3=some (.int .i64):=by kernel_rfl
theorem wf_u32 {i:Int} (h:(Lit.int .u32 i).wf=true):0<=i/\i<4294967296:=by
 have h':decide (IntKind.u32.min<=i/\i<=IntKind.u32.max)=true:=by simpa[Lit.wf]using h
 have:=of_decide_eq_true h'
 simp only[show IntKind.u32.min=0 from rfl,show IntKind.u32.max=4294967295 from rfl]at this
 omega
theorem shp_int {n:Nat} {ss:List SV} (h:ShpT Tryz.prog (n+1) 3 ss) : ∃i,ss=[.int .i64 i]/\(Lit.int .i64 i).wf=true:=by
 unfold ShpT at h
 rw[u_int]at h
 exact h
theorem shp_bool {n:Nat} {ss:List SV} (h:ShpT Tryz.prog (n+1) 4 ss) : ∃b,ss=[.bool b]:=by
 unfold ShpT at h
 rw[u_bool]at h
 exact h
theorem shp_limbs_all {n:Nat} : ∀l:List (List SV),(∀x∈l,ShpT Tryz.prog (n+1) 84 x) -> ∃xs:List Nat,l.flatten=xs.map limb/\l.length=xs.length/\okL xs:=by
 intro l
 induction l with
 |nil=>intro _;exact⟨[],rfl,rfl,okL_nil⟩
 |cons x l ih=>
  intro hx
  obtain⟨xs,h1,h2,h3⟩:=ih fun y hy=>hx y (List.mem_cons_of_mem _ hy)
  have h4:=hx x List.mem_cons_self
  unfold ShpT at h4
  rw[u_limb]at h4
  obtain⟨i,rfl,hw⟩:=h4
  obtain⟨w1,w2⟩:=wf_u32 hw
  obtain⟨y,rfl⟩ : ∃y:Nat,i=(y:Int):=⟨i.toNat,by omega⟩
  exact⟨y::xs,by rw[List.flatten_cons,h1];rfl,by simp[h2],okL_cons.2 ⟨by omega,h3⟩⟩
theorem shp_limbs {n:Nat} {ss:List SV} (h:ShpT Tryz.prog (n+2) 61 ss) : ∃xs,ss=[natV xs]/\okL xs/\xs.length<=maxLen:=by
 unfold ShpT at h
 rw[u_limbs]at h
 obtain⟨elems,rfl,hl,he⟩:=h
 obtain⟨xs,h1,h2,h3⟩:=shp_limbs_all elems he
 exact⟨xs,by rw[h1,h2],h3,h2▸hl⟩
def fieldTs (P:Program) (t:TypeId):List TypeId:=match P.underlying t with
 |some (.struct fs)=>fs.toList.map (·.type)
 |_=>[]
theorem shp_struct {P:Program} {n:Nat} {t:TypeId} {ts:List TypeId} {ss:List SV} (ht:fieldTs P t=ts) (hne:ts≠[]) (h:ShpT P (n+1) t ss) :
  ∃parts:List (List SV),ss=parts.flatten/\parts.length=ts.length /\ ∀ (j:Nat) (u:TypeId) (x:List SV),ts[j]?=some u->parts[j]?=some x->ShpT P n u x:=by
 unfold fieldTs at ht
 unfold ShpT at h
 split at ht
 ·rename_i fs hu
  rw[hu]at h
  obtain⟨parts,h1,h2,h3⟩:=h
  subst ht
  refine⟨parts,h1,by rw[h2,List.length_map],fun j u x hj hx => ?_⟩
  rw[List.getElem?_map]at hj
  cases hf:fs.toList[j]? with
  |none=>rw[hf]at hj;cases hj
  |some f=>
   rw[hf]at hj
   cases hj
   exact h3 j f x hf hx
 ·exact(hne ht.symm).elim
theorem len_three {α:Type} {l:List α} (h:l.length=3) : ∃a b c,l=[a,b,c]:=by
 match l,h with
 | [a,b,c],_=>exact⟨a,b,c,rfl⟩
theorem len_five {α:Type} {l:List α} (h:l.length=5) : ∃a b c d e,l=[a,b,c,d,e]:=by
 match l,h with
 | [a,b,c,d,e],_=>exact⟨a,b,c,d,e,rfl⟩
theorem ts_rat:fieldTs Tryz.prog 63=[4,61,61]:=by kernel_rfl
theorem shp_rat {n:Nat} {ss:List SV} (h:ShpT Tryz.prog (n+3) 63 ss) : ∃s xs ys,ss=[.bool s,natV xs,natV ys]/\okL xs/\okL ys/\xs.length<=maxLen/\ys.length<=maxLen:=by
 obtain⟨parts,rfl,hl,hp⟩:=shp_struct ts_rat (by simp) h
 obtain⟨a,b,c,rfl⟩:=len_three hl
 obtain⟨s,rfl⟩:=shp_bool (hp 0 _ a rfl rfl)
 obtain⟨xs,rfl,h1,h2⟩:=shp_limbs (hp 1 _ b rfl rfl)
 obtain⟨ys,rfl,h3,h4⟩:=shp_limbs (hp 2 _ c rfl rfl)
 exact⟨s,xs,ys,rfl,h1,h3,h2,h4⟩
theorem trodAll_stays {H:Type} {enc:TypeId×Value->H} {P:Program} (hl:laidOutB P=true) {W W':World} (hb:Below W.heap.size W W') {sp:Nat->Bool} :
  ∀ {ts:List TypeId} {vs:List Value} {ds:List (DataW H)} {ps:List MemPlace},(ts.all fun t=>P.readableRec t&&decide (t<P.types.size))=true->DataW.TrodAll enc P W 0 (fun _=>true) true ts vs ds ps ->
   (∀x∈ps,x.block<W.heap.size)->(∀x∈ps,sp x.block=true)->DataW.TrodAll enc P W' 0 sp true ts vs ds ps:=by
 intro ts
 induction ts with
 |nil=>
  intro vs ds ps _ h _ _
  cases vs<;>cases ds<;>simp_all [DataW.TrodAll]
 |cons t ts ih=>
  intro vs ds ps ht h hlt hs
  cases vs with
  |nil=>simp[DataW.TrodAll]at h
  |cons v vs=>
   cases ds with
   |nil=>simp[DataW.TrodAll]at h
   |cons d ds=>
    obtain⟨p,q,h1,h2,rfl⟩:=h
    rw[List.all_cons,Bool.and_eq_true,Bool.and_eq_true]at ht
    obtain⟨⟨ht1,ht2⟩,ht3⟩:=ht
    refine⟨p,q,WideElems.Trod_stays hl ht1 (of_decide_eq_true ht2) h1 (fun x hx=>hb.same (hlt x (List.mem_append_left _ hx))) (fun x hx=>hs x (List.mem_append_left _ hx)),?_,rfl⟩
    exact ih ht3 h2 (fun x hx=>hlt x (List.mem_append_right _ hx)) (fun x hx=>hs x (List.mem_append_right _ hx))
end Go.Proofs.YtjphnjffglapgaaGreatDoor
namespace Go.Ev
open Go.RowKit
section
variable {P:Program} {w0 w:World} {F I:Nat->Prop} {Z:Zy} {N:Nat} {st:St} {a:Act}
theorem nilcmp_region {call:Callf} (hcall:CallAll P Z.gl call) {id d1 d2 x n:Nat} {cs:List SV} {t t' ty1 ty2:TypeId} {p1 p2:String} {af1 af2:Array Edge} {e:Nat×Nat×Nat} (hto:To w0 F I Z N st a w) (hx:st.tmp x = .sv (.sl n cs))
  (hd1:d1<N) (hd2:d2<N) (he:elm P t=some e) {Q:Exit->Act->World->Prop}
  (hQ : ∀b a' w',(b=true->cs=[])->To w0 F I Z N ((st.put d1 (.sv (.sl n cs))).put d2 (.sv (.bool b))) a' w'->Q .normal a' w') :
  (Code.region id #[⟨some d1,.move (.tmp x),ty1,p1,af1,none⟩,⟨some d2,.binOp .eql t (.tmp d1) (.const (.slice none 0 0)) t',ty2,p2,af2,none⟩] false).wp P Q a w:=by
 obtain⟨β,hr⟩:=hto
 refine wp_region ?_
 show wpOps P _ Q [0,1] a w
 rw[wpOps_cons]
 refine stepO_wpOp (mu:=fun _=>false) (soft:=false) (st':=st.put d1 (.sv (.sl n cs))) hr hcall rfl (fun d e=>by cases e;exact hd1) ?_ (fun a' w' hto => ?_) Q
 ·show some (st.put d1 (st.tmp x))=_
  rw[hx]
 obtain⟨β',hr'⟩:=hto
 rw[wpOps_cons]
 unfold wpOp
 simp only[List.getElem?_toArray,List.getElem?_cons_succ,List.getElem?_cons_zero]
 rw[if_pos (by rfl)]
 have hv:=hr'.tmps d1
 rw[show (st.put d1 (.sv (.sl n cs))).tmp d1 = .sv (.sl n cs) from if_pos rfl]at hv
 obtain⟨e1,e2,e3⟩:=e
 obtain⟨hu,_⟩:=elm_parts he
 have hv':Rep w' (Mut F β' (st.put d1 (.sv (.sl n cs)))) (a'.tmps.getD d1 undef) (.sl n cs):=hv
 obtain⟨A,cap,hval,hcap⟩:=slice_len hv'
 refine .inl (Runs.wp (K:=fun a' w'=>wpOps P _ Q [] a' w') ⟨w',.inl ⟨.bool A.isNone,?_,?_⟩⟩)
 ·have h1:a'.eval (.tmp d1) = .slice A n cap:=hval
  have h2:a'.eval (.const (.slice none 0 0)) = .slice none 0 0:=rfl
  have hg:(eqGuard .eql t (.tmp d1) (.const (.slice none 0 0)) (.slice A n cap) (.slice none 0 0)).run P w' = .ok () w':=by
   unfold eqGuard;split<;>rfl
  simp only[execOp,h1,h2,Sem.run_bind,hg,Lib.run_eql_slice_nil w' t e1 A n cap 0 0 hu,Result.andThen_ok,Sem.run_pure]
 ·show Q .normal _ _
  refine hQ A.isNone _ _ (fun hb => ?_) ⟨β',hr'.putO (dst:=some d2) (t := .sv (.bool A.isNone)) (fun d e=>by cases e;exact hd2) (.bool _) (fun d g e=>by simp[TV.id]at e)⟩
  rw[hval]at hv'
  cases hv' with
  |sl0=>rfl
  |sl=>simp at hb
end
def cloneX (f:FuncId):Callf:=fun g args=>if g=f then match args with
 | [.sv (.sl n cs)]=>if cs.length=n/\oneAll cs=true/\n<=274877906944 then some (.sv (.sl n cs),[none]) else none
 |_=>none
 else none
theorem cloneX_ok {P:Program} {G:List (Nat×Value)} {f:FuncId} {fn:Func} {t ty1 ty2:TypeId} {p1 p2:String} {af1 af2:Array Edge} {i1:Nat} {c0 cT c3:Code} (hf:P.funcs[f]?=some fn) (hok:okFn P fn=true)
  (hb:fn.body=some (.seq c0 (.seq (.seq (.region i1 #[⟨some 3,.move (.tmp 0),ty1,p1,af1,none⟩,⟨some 4,.binOp .eql t (.tmp 3) (.const (.slice none 0 0)) t,ty2,p2,af2,none⟩] false) (.cond (.tmp 4) cT .skip)) c3)))
  (hn:4<fn.ntmps) {e:Nat×Nat×Nat} (he:elm P t=some e)
  (h0 : ∀n cs,∃k st,exec P (fun _ _=>none) (fun _=>false) k c0 (argSt [.sv (.sl n cs)])=some (.normal,st)/\st.tmp 0 = .sv (.sl n cs) /\
   (∃k st',exec P (fun _ _=>none) (fun _=>false) k cT ((st.put 3 (.sv (.sl n cs))).put 4 (.sv (.bool true)))=some (.ret,st')/\retOf P st' fn.results.toList=some (.sv (.sl 0 []))) /\
   (cs.length=n->oneAll cs=true->n<=274877906944 -> ∃call mu k st',CallAll P G call/\exec P call mu k c3 ((st.put 3 (.sv (.sl n cs))).put 4 (.sv (.bool false)))=some (.ret,st')/\retOf P st' fn.results.toList=some (.sv (.sl n cs)))) :
  CallOk P G (cloneX f):=by
 intro g args r exps h
 unfold cloneX at h
 split at h
 ·rename_i hg
  subst hg
  split at h
  ·rename_i n cs
   split at h
   ·rename_i hc
    cases h
    simp only[okFn,Bool.and_eq_true,hb,decide_eq_true_eq]at hok
    obtain⟨⟨⟨hm,hnm⟩,hN⟩,hcode⟩:=hok
    refine fun w F B vals hgl hF hsz hrep hinj => .inl ⟨enters_of hf hnm hb,?_⟩
    have hcall:CallAll P G (fun _ _=>none):=call_none
    have hent:=entry hgl hN (show ([Arg.sv (.sl n cs)]:List Arg).length<=fn.ntmps by simp;omega) hF hsz hrep hinj
    refine calls_of_wp hf hb ?_
    simp only[okCode,Bool.and_eq_true]at hcode
    obtain⟨hc0,⟨_,hcT,_⟩,hc3⟩:=hcode
    obtain⟨k,st,he0,hx,⟨kT,sT,heT,hrT⟩,h3⟩:=h0 n cs
    obtain⟨call3,mu3,k3,s3,hcall3,he3,hr3⟩:=h3 hc.1 hc.2.1 hc.2.2
    have fin : ∀ {st':St},retOf P st' fn.results.toList=some (.sv (.sl n cs)) -> ∀a' w',To w F (impB [.sv (.sl n cs)] B) ⟨B,fun _=>undef,False,G⟩ fn.ntmps st' a' w'->bodyPost P fn (fun e w' => ∃v,e = .returned v/\RetRep w w' F v (.sv (.sl n cs))/\Ext (impB [.sv (.sl n cs)] B) w w' /\ ∀ (i:Nat) (cs':List SV),([none]:List (Option (List SV)))[i]?=some (some cs')->Holds w' F (B i) cs') .ret a' w':=by
     intro st' hret a' w' ⟨β,hr⟩
     obtain⟨v,hv,hrr⟩:=hr.ret hret
     refine⟨hr.defers,v,hv,v,rfl,hrr,hr.ext,fun i cs' hi => ?_⟩
     cases i<;>simp at hi
    refine wp_seq (exec_wp (Z:=⟨B,fun _=>undef,False,G⟩) hcall hm k hc0 ⟨_,hent⟩ he0 fun a1 w1 hto1 => ?_)
    refine wp_seq (wp_seq (nilcmp_region (Z:=⟨B,fun _=>undef,False,G⟩) hcall hto1 hx (by omega) (by omega) he fun b a2 w2 hb2 hto2 => ?_))
    cases b with
    |true=>
     have hcs:=hb2 rfl
     subst hcs
     have hn0:n=0:=by simpa using hc.1.symm
     subst hn0
     obtain⟨β,hr2⟩:=hto2
     have hv4:Rep _ _ (a2.eval (.tmp 4)) (.bool true):=hr2.tmps 4
     refine wp_cond (rep_bool hv4) ?_
     exact exec_wp (Z:=⟨B,fun _=>undef,False,G⟩) hcall hm kT hcT ⟨β,hr2⟩ heT fun a3 w3 hto3=>fin hrT a3 w3 hto3
    |false=>
     have hto2':=hto2
     obtain⟨β,hr2⟩:=hto2
     have hv4:Rep _ _ (a2.eval (.tmp 4)) (.bool false):=hr2.tmps 4
     refine wp_cond (rep_bool hv4) ?_
     refine wp_skip ?_
     exact exec_wp (Z:=⟨B,fun _=>undef,False,G⟩) hcall3 hm k3 hc3 hto2' he3 fun a3 w3 hto3=>fin hr3 a3 w3 hto3
   ·cases h
  ·cases h
 ·cases h
end Go.Ev
namespace Go.Proofs.YtjphnjffglapgaaGreatDoor
open Go.Ev
def nGood:Nat:=174
def notGood:List Nat:=[44,86,109,134,136,138,139]
noncomputable def good (f:FuncId):Bool:=Nat.ble 2 f&&Nat.blt f (2+nGood) && !(notGood.any fun g=>Nat.beq g f)
def allOk (P:Program) (n:Nat):Bool:=(List.range n).all fun i=>notGood.any (fun g=>Nat.beq g (i+2))||match P.funcs[i+2]? with
 |some fn=>okFn P fn
 |none=>true
theorem good_of {P:Program} {n:Nat} (h:allOk P n=true) {f:Nat} {fn:Func} (h2:2<=f) (hn:f<2+n) (hb:(notGood.any fun g=>Nat.beq g f)=false) (hf:P.funcs[f]?=some fn):okFn P fn=true:=by
 unfold allOk at h
 have hlt:f-2<n:=by omega
 have:=List.all_eq_true.1 h (f-2) (List.mem_range.2 hlt)
 rw[show f-2+2=f by omega,hf,hb,Bool.false_or]at this
 exact this
theorem good_all:allOk Tryz.prog nGood=true:=by kernel_rfl
theorem good_ok:Go.Ev.Good Tryz.prog good:=by
 intro f fn hg hf
 unfold good at hg
 simp only[Bool.and_eq_true,Nat.ble_eq,Nat.blt_eq,Bool.not_eq_true']at hg
 exact good_of good_all hg.1.1 hg.1.2 hg.2 hf
end Go.Proofs.YtjphnjffglapgaaGreatDoor
namespace Go.Ev
section
variable {C:Cx} {ops:Array Oper} {l:List Oper} {st:St} {Q:St->Prop} {d:Nat}
def FnR (C:Cx) (f:FuncId) (args:List SV) (cs:List SV) (size off n:Nat):Prop := ∃m e,callN C.P C.X C.mu C.good m f (args.map Arg.sv)=some (.row cs size off n,e)
theorem vf_row {g:FuncId} {ss cs:List SV} {size off n:Nat} (h:FnR C g ss cs size off n) (k:WO C false ops l (st.new d cs (.ref d (st.gen d) size off n)) Q):WF C false ops l (some d) st Q g ss:=by
 obtain⟨m,e,hn⟩:=h
 exact⟨m,by rw[hn];exact k⟩
theorem vf_rowS {dst:Option Nat} {g:FuncId} {ss cs:List SV} {size off n:Nat} (h:FnR C g ss cs size off n) (k:WO C true ops l (st.putO dst (.sv (.sl n ((cs.drop off).take (n*size))))) Q):WF C true ops l dst st Q g ss:=by
 obtain⟨m,e,hn⟩:=h
 exact⟨m,by rw[hn];exact k⟩
def RR (P:Program) (rs:List ResultVar) (r:Ret) (e:Ex) (st:St):Prop:=match e with
 | .exit _=>False
 | .goto _=>False
 |_=>retRow P st rs=some r
theorem expOf_sv (st:St) (ars:List SV):expOf st (ars.map Arg.sv)=List.replicate ars.length none:=by
 unfold expOf
 rw[List.length_map]
 refine List.ext_getElem? fun i => ?_
 rw[List.getElem?_map,List.getElem?_replicate]
 rcases Nat.lt_or_ge i ars.length with h|h
 ·rw[List.getElem?_range h,if_pos h,Option.map_some,List.getElem?_map,List.getElem?_eq_getElem h]
  rfl
 ·rw[List.getElem?_eq_none (by simpa using h),if_neg (by omega)]
  rfl
theorem row_intro {f:FuncId} {fn:Func} {body:Code} {args:List SV} {r:Ret} (hf:C.P.funcs[f]?=some fn) (hok:C.good f=true) (hb:fn.body=some body) (hl:args.length<=fn.ntmps)
  (h:WP C body (argSt (args.map Arg.sv)) (RR C.P fn.results.toList r)) : ∃n,rowN C.P C.X C.mu C.good n f (args.map Arg.sv)=some (r,List.replicate args.length none):=by
 obtain⟨n,e,st,he,hq⟩:=h
 refine⟨n,?_⟩
 unfold rowN
 simp only[hf,hok,hb,if_true]
 rw[if_pos (by simpa using hl),he,<- expOf_sv st args]
 cases e with
 |exit i=>exact hq.elim
 |goto i=>exact hq.elim
 |normal=>show Option.map _ (retRow C.P st fn.results.toList)=_;rw[show retRow C.P st fn.results.toList=some r from hq];rfl
 |ret=>show Option.map _ (retRow C.P st fn.results.toList)=_;rw[show retRow C.P st fn.results.toList=some r from hq];rfl
theorem FnI_of {f:FuncId} {fn:Func} {body:Code} {args:List Arg} {T:SV->List (Option (List SV))->Prop} (hf:C.P.funcs[f]?=some fn) (hok:C.good f=true) (hb:fn.body=some body) (hX : ∀ars,C.X f ars=none) (hl:args.length<=fn.ntmps)
  (h:WP C body (argSt args) (fun e s => ∃r exps,T r exps/\RQ C.P fn.results.toList r e s/\expOf s args=exps)) (hst:stq args=none:=by rfl) : ∃r exps,T r exps/\FnI C f args r exps:=by
 obtain⟨n,e,st,he,r,exps,hT,hq,hexp⟩:=h
 refine⟨r,exps,hT,n+1,?_⟩
 unfold callN
 rw[hst,hX]
 simp only[hf,hok,hb,if_true]
 rw[if_pos hl,he,<- hexp]
 cases e with
 |exit i=>exact hq.elim
 |goto i=>exact hq.elim
 |normal=>show Option.map _ (retOf C.P st fn.results.toList)=_;rw[show retOf C.P st fn.results.toList=some (.sv r) from hq];rfl
 |ret=>show Option.map _ (retOf C.P st fn.results.toList)=_;rw[show retOf C.P st fn.results.toList=some (.sv r) from hq];rfl
theorem rr_one {P:Program} {t:Nat} {r:Ret}:RR P [.tmp t] r .ret st=((match st.tmp t with
  | .ref d g size off n=>if d<1000000 then (st.obj d g).map fun cs=>Ret.row cs size off n else none
  |_=>none)=some r):=by
 show (retRow P st [.tmp t]=some r)=_
 unfold retRow resTV
 dsimp only
 generalize st.tmp t=v
 cases v<;>rfl
end
attribute [go_sem] rr_one
end Go.Ev
namespace Go.Ev
theorem tab_row_ok {P:Program} {X:Callf} {mu good:FuncId->Bool} {G:List (Nat×Value)} (hX:TabOk P G X) (hg:Good P good) (X1:Callf)
  (h : ∀g args r exps,X1 g args=some (r,exps)->X g args=some (r,exps)\/(∃n,rowN P X mu good n g args=some (r,exps)) \/ ∃k st vs,args=[.st k st vs]):CallOk P G X1:=by
 intro g args r exps h1
 rcases h g args r exps h1 with h2|⟨n,h2⟩|⟨k,st,vs,rfl⟩
 ·exact hX.ok g args r exps h2
 ·exact rowN_ok hX hg h2
 ·intro w F B vals _ _ _ hrep _
  exact(hrep 0 _ rfl).elim
end Go.Ev
namespace Go.Ev
def bs (l:List UInt8):ByteArray:=⟨l.toArray⟩
theorem bs_data (s:ByteArray):bs s.data.toList=s:=rfl
theorem bs_toList (l:List UInt8):(bs l).data.toList=l:=by simp[bs]
theorem bs_size (l:List UInt8):(bs l).size=l.length:=by simp[bs,ByteArray.size]
theorem bs_get (l:List UInt8) (i:Nat):(bs l)[i]?=l[i]?:=by
 rw[getElem?_def]
 split
 ·rename_i h
  have h':i<l.length:=by rw[<- bs_size];exact h
  rw[List.getElem?_eq_getElem h']
  rfl
 ·rename_i h
  have h' : ¬i<l.length:=by rw[<- bs_size];exact h
  rw[List.getElem?_eq_none (by omega)]
theorem bs_append (a b:List UInt8):bs a++bs b=bs (a++b):=by
 apply ByteArray.ext
 simp[bs]
theorem bs_extract (l:List UInt8) (a b:Nat):(bs l).extract a b=bs ((l.drop a).take (b-a)):=by
 apply ByteArray.ext
 simp[bs]
theorem bs_list (l:List UInt8):(bs l).toList=l:=by
 rw[ByteArray.toList_eq]
 exact bs_toList l
theorem bs_eq {a b:List UInt8}:((bs a).toList==(bs b).toList)=(a==b):=by rw[bs_list,bs_list]
def dig (b:UInt8):Bool:=48<=b.toNat&&b.toNat<=57
def digs (l:List UInt8):Bool:=l.all dig
def natD (l:List UInt8):Nat:=l.foldl (fun a b=>a*10+(b.toNat-48)) 0
def natLE:List UInt8->Nat
 | []=>0
 |b::r=>(b.toNat-48)+10*natLE r
theorem natD_nil:natD []=0:=rfl
theorem natD_snoc (l:List UInt8) (b:UInt8):natD (l++[b])=natD l*10+(b.toNat-48):=by simp[natD]
theorem natD_rev (l:List UInt8):natD l.reverse=natLE l:=by
 induction l with
 |nil=>rfl
 |cons b r ih=>
  rw[List.reverse_cons,natD_snoc,ih,natLE]
  omega
theorem natLE_lt {l:List UInt8} (h:digs l=true):natLE l<10^l.length:=by
 induction l with
 |nil=>simp[natLE]
 |cons b r ih=>
  unfold digs at h
  rw[List.all_cons,Bool.and_eq_true]at h
  have hb:=h.1
  unfold dig at hb
  simp only[Bool.and_eq_true,decide_eq_true_eq]at hb
  have:=ih h.2
  rw[natLE,List.length_cons,Nat.pow_succ]
  omega
end Go.Ev
namespace Go.Ev
open Go.RowKit
def CallAt (P:Program) (g:FuncId) (args:List Arg) (r:Ret) (exps:List (Option (List SV))):Prop:=
 ∀ (w:World) (F:Nat->Prop) (B:Nat->Nat) (vals:Array Value),(∀b,F b->b<w.heap.size)->vals.size=args.length ->
  (∀ (i:Nat) (x:Arg),args[i]?=some x->ArgRep w F (vals.getD i undef) (B i) x) ->
  (∀ (i j:Nat) (x y:Arg),args[i]?=some x->args[j]?=some y->isImp x=true->isImp y=true->B i=B j->i=j) ->
  Invk P g vals w fun e w' => ∃v,e = .returned v/\RetRep w w' F v r/\Ext (impB args B) w w' /\ ∀ (i:Nat) (cs:List SV),exps[i]?=some (some cs)->Holds w' F (B i) cs
theorem sv_imp {ss:List SV} {B:Nat->Nat} {b:Nat} : ¬impB (ss.map Arg.sv) B b:=by
 rintro⟨i,x,hx,hi,_⟩
 rw[List.getElem?_map]at hx
 cases hs:ss[i]? with
 |none=>rw[hs]at hx;cases hx
 |some s=>rw[hs]at hx;cases hx;cases hi
theorem ext_below {w w':World} {J:Nat->Prop} (h:Below w.heap.size w w') (hJ : ∀b,¬J b):Ext J w w' :=
 ⟨h.os,h.tape,h.output,h.size,fun b hb _=>h.block b hb,fun b cs ty hb hi _=>(hJ b hi).elim⟩
theorem at_extern {P:Program} {g:FuncId} {ss:List SV} {s:SV} {exps:List (Option (List SV))} (he : ∀i:Nat,exps[i]?≠some (some []) /\ ∀cs,exps[i]?≠some (some cs))
  (h : ∀ (w:World) (F:Nat->Prop) (vals:Array Value),vals.size=ss.length->(∀ (i:Nat) (x:SV),ss[i]?=some x->Rep w F (vals.getD i undef) x) -> ∃v,(callFunc g vals).run P w = .ok (.value v) w/\Rep w F v s) :
  CallAt P g (ss.map Arg.sv) (.sv s) exps:=by
 intro w F B vals hF hsz hrep hinj
 obtain⟨v,hv,hr⟩:=h w F vals (by simpa using hsz) (fun i x hx=>by
  have:=hrep i (.sv x) (by rw[List.getElem?_map,hx];rfl)
  exact this)
 exact .inr ⟨v,hv,v,rfl,hr,ext_below (Below.refl _ _) (fun b=>sv_imp),fun i cs hi=>((he i).2 cs hi).elim⟩
theorem at_calls {P:Program} {g:FuncId} {ss:List SV} {s:SV} {exps:List (Option (List SV))} (hE:Enters P g) (he : ∀i:Nat,exps[i]?≠some (some []) /\ ∀cs,exps[i]?≠some (some cs))
  (h : ∀ (w:World) (F:Nat->Prop) (vals:Array Value),vals.size=ss.length->(∀ (i:Nat) (x:SV),ss[i]?=some x->Rep w F (vals.getD i undef) x)->Calls P g vals w fun e w' => ∃v,e = .returned v/\Rep w' F v s/\Below w.heap.size w w') :
  CallAt P g (ss.map Arg.sv) (.sv s) exps:=by
 intro w F B vals hF hsz hrep hinj
 refine .inl ⟨hE,(h w F vals (by simpa using hsz) (fun i x hx=>hrep i (.sv x) (by rw[List.getElem?_map,hx];rfl))).mono ?_⟩
 rintro e w' ⟨v,rfl,hr,hb⟩
 exact⟨v,rfl,hr,ext_below hb (fun b=>sv_imp),fun i cs hi=>((he i).2 cs hi).elim⟩
theorem none_exps {n:Nat} (i:Nat):(List.replicate n (none:Option (List SV)))[i]?≠some (some []) /\ ∀cs,(List.replicate n (none:Option (List SV)))[i]?≠some (some cs):=by
 constructor
 ·intro h
  rw[List.getElem?_replicate]at h
  split at h<;>simp at h
 ·intro cs h
  rw[List.getElem?_replicate]at h
  split at h<;>simp at h
def xIndex:List Arg->Option (Ret×List (Option (List SV)))
 | [.sv (.str s),.sv (.int .u8 c)]=>some (.sv (.int .i64 (Lib.indexByte s.data.toList c.toNat.toUInt8)),List.replicate 2 none)
 |_=>none
def xCount:List Arg->Option (Ret×List (Option (List SV)))
 | [.sv (.str s),.sv (.int .u8 c)]=>some (.sv (.int .i64 (Lib.countByte s.data.toList c.toNat.toUInt8)),List.replicate 2 none)
 |_=>none
def xCmp:List Arg->Option (Ret×List (Option (List SV)))
 | [.sv (.str a),.sv (.str b)]=>some (.sv (.int .i64 (Lib.compareBytes a.data.toList b.data.toList)),List.replicate 2 none)
 |_=>none
def xTrim:List Arg->Option (Ret×List (Option (List SV)))
 | [.sv (.str s),.sv (.str c)]=>if s.size<=9223372036854775807/\c.size<4294967281/\c.data.toList.all (fun b=>decide (b.toNat<128))=true then some (.sv (.str (bs (Lib.trimS s.data.toList c.data.toList))),List.replicate 2 none) else none
 |_=>none
def xTrimLeft:List Arg->Option (Ret×List (Option (List SV)))
 | [.sv (.str s),.sv (.str c)]=>if c.size<4294967281/\c.data.toList.all (fun b=>decide (b.toNat<128))=true then some (.sv (.str (bs (Lib.trimLeftS s.data.toList c.data.toList))),List.replicate 2 none) else none
 |_=>none
def xAtoi:List Arg->Option (Ret×List (Option (List SV)))
 | [.sv (.str s)]=>match Lib.atoi s.data.toList with
  |some v=>if s.size<=18 then some (.sv (.tup [.int .i64 v,.con .nilIface]),List.replicate 1 none) else none
  |none=>none
 |_=>none
def strsOf:List SV->Option (List (List UInt8))
 | []=>some []
 | .str s::r=>match strsOf r with
  |some l=>some (s.data.toList::l)
  |none=>none
 |_=>none
def xJoin:List Arg->Option (Ret×List (Option (List SV)))
 | [.sv (.sl n cs),.sv (.str sep)]=>match strsOf cs with
  |some xs=>if xs.length=n/\n<=140737488355328/\(Lib.join xs sep.data.toList).length<=140737488355328 then some (.sv (.str (bs (Lib.join xs sep.data.toList))),List.replicate 2 none) else none
  |none=>none
 |_=>none
def splitB (c:UInt8):List UInt8->List (List UInt8)
 | []=>[[]]
 |b::r=>if b==c then []::splitB c r else match splitB c r with
  |x::xs=>(b::x)::xs
  | []=>[[b]]
def strC (l:List UInt8):SV := .str (bs l)
def xGenSplit:List Arg->Option (Ret×List (Option (List SV)))
 | [.sv (.str s),.sv (.str sep),.sv (.int .i64 0),.sv (.int .i64 (-1))]=>match sep.data.toList with
  | [c]=>if s.size<=1048576 then some (.row ((splitB c s.data.toList).map strC) 1 0 (splitB c s.data.toList).length,List.replicate 4 none) else none
  |_=>none
 |_=>none
def xSplit:List Arg->Option (Ret×List (Option (List SV)))
 | [.sv (.str s),.sv (.str sep)]=>match sep.data.toList with
  | [c]=>if s.size<=1048576 then some (.row ((splitB c s.data.toList).map strC) 1 0 (splitB c s.data.toList).length,List.replicate 2 none) else none
  |_=>none
 |_=>none
section
variable {P:Program} {g:FuncId} {fn:Func} {args:List Arg} {r:Ret} {exps:List (Option (List SV))}
theorem rep_str2 {w:World} {F:Nat->Prop} {vals:Array Value} {s:ByteArray} {x:SV} (hsz:vals.size=2) (h : ∀ (i:Nat) (y:SV),[SV.str s,x][i]?=some y->Rep w F (vals.getD i undef) y) : ∃v,vals = #[.string s,v]/\Rep w F v x:=by
 have h0:=h 0 _ rfl
 have h1:=h 1 _ rfl
 obtain⟨l⟩:=vals
 match l,hsz,h0,h1 with
 | [a,b],_,h0,h1=>
  have h0:Rep w F a (.str s):=h0
  have h1:Rep w F b x:=h1
  rw[rep_str h0]
  exact⟨b,rfl,h1⟩
theorem index_at (hf : P.funcs[g]? = some fn) (hname : (fn.name == "runtime.NumGoroutine") = false) (hb : fn.body.isNone = true) (hn : Extern.findNext fn = none) (he : Extern.find fn = some Extern.BytealgIndexByte.indexByte)
  (h:xIndex args=some (r,exps)):CallAt P g args r exps:=by
 unfold xIndex at h
 split at h
 ·rename_i s c
  cases h
  refine at_extern (ss:=[.str s,.int .u8 c]) none_exps fun w F vals hsz hrep => ?_
  obtain⟨v,rfl,hv⟩:=rep_str2 hsz hrep
  rw[rep_int hv]
  refine⟨_,?_,.int _ _⟩
  rw[run_callFunc_extern hf hname hb hn he,Lib.run_indexByteString]
  rfl
 ·cases h
theorem cmp_at (hf : P.funcs[g]? = some fn) (hname : (fn.name == "runtime.NumGoroutine") = false) (hb : fn.body.isNone = true) (hn : Extern.findNext fn = none) (he : Extern.find fn = some Extern.BytealgCompare.compare)
  (h:xCmp args=some (r,exps)):CallAt P g args r exps:=by
 unfold xCmp at h
 split at h
 ·rename_i s c
  cases h
  refine at_extern (ss:=[.str s,.str c]) none_exps fun w F vals hsz hrep => ?_
  obtain⟨v,rfl,hv⟩:=rep_str2 hsz hrep
  rw[rep_str hv]
  refine⟨_,?_,.int _ _⟩
  rw[run_callFunc_extern hf hname hb hn he,Lib.run_compareString]
  rfl
 ·cases h
theorem count_at (hf : P.funcs[g]? = some fn) (hname : (fn.name == "runtime.NumGoroutine") = false) (hb : fn.body.isNone = true) (hn : Extern.findNext fn = none) (he : Extern.find fn = some Extern.BytealgCount.count)
  (h:xCount args=some (r,exps)):CallAt P g args r exps:=by
 unfold xCount at h
 split at h
 ·rename_i s c
  cases h
  refine at_extern (ss:=[.str s,.int .u8 c]) none_exps fun w F vals hsz hrep => ?_
  obtain⟨v,rfl,hv⟩:=rep_str2 hsz hrep
  rw[rep_int hv]
  refine⟨_,?_,.int _ _⟩
  rw[run_callFunc_extern hf hname hb hn he,Lib.run_countString]
  rfl
 ·cases h
theorem trim_at (hE:Enters P g) (hC : ∀ (s c:ByteArray) (w:World),s.size<=9223372036854775807->c.size<4294967281->(∀ (j:Nat) b,c.data.toList[j]?=some b->b.toNat<128) ->
   Calls P g #[.string s,.string c] w fun e w'=>e = .returned (.string ⟨(Lib.trimS s.data.toList c.data.toList).toArray⟩)/\Below w.heap.size w w')
  (h:xTrim args=some (r,exps)):CallAt P g args r exps:=by
 unfold xTrim at h
 split at h
 ·rename_i s c
  split at h
  ·rename_i hc
   cases h
   refine at_calls (ss:=[.str s,.str c]) hE none_exps fun w F vals hsz hrep => ?_
   obtain⟨v,rfl,hv⟩:=rep_str2 hsz hrep
   rw[rep_str hv]
   refine(hC s c w hc.1 hc.2.1 (fun j b hb=>of_decide_eq_true (List.all_eq_true.1 hc.2.2 b (List.mem_of_getElem? hb)))).mono ?_
   rintro e w' ⟨rfl,hb⟩
   exact⟨_,rfl,.str _,hb⟩
  ·cases h
 ·cases h
theorem trimLeft_at (hE:Enters P g) (hC : ∀ (s c:ByteArray) (w:World),c.size<4294967281->(∀ (j:Nat) b,c.data.toList[j]?=some b->b.toNat<128) ->
   Calls P g #[.string s,.string c] w fun e w'=>e = .returned (.string ⟨(Lib.trimLeftS s.data.toList c.data.toList).toArray⟩)/\Below w.heap.size w w')
  (h:xTrimLeft args=some (r,exps)):CallAt P g args r exps:=by
 unfold xTrimLeft at h
 split at h
 ·rename_i s c
  split at h
  ·rename_i hc
   cases h
   refine at_calls (ss:=[.str s,.str c]) hE none_exps fun w F vals hsz hrep => ?_
   obtain⟨v,rfl,hv⟩:=rep_str2 hsz hrep
   rw[rep_str hv]
   refine(hC s c w hc.1 (fun j b hb=>of_decide_eq_true (List.all_eq_true.1 hc.2 b (List.mem_of_getElem? hb)))).mono ?_
   rintro e w' ⟨rfl,hb⟩
   exact⟨_,rfl,.str _,hb⟩
  ·cases h
 ·cases h
theorem atoi_at (hE:Enters P g) (hC : ∀ (s:ByteArray) (v:Int) (w:World),s.size<=18->Lib.atoi s.data.toList=some v ->
   Calls P g #[.string s] w fun e w'=>e = .returned (.tuple #[.int .i64 v,.nilIface])/\Below w.heap.size w w')
  (h:xAtoi args=some (r,exps)):CallAt P g args r exps:=by
 unfold xAtoi at h
 split at h
 ·rename_i s
  split at h
  ·rename_i v hv
   split at h
   ·rename_i hc
    cases h
    refine at_calls (ss:=[.str s]) hE none_exps fun w F vals hsz hrep => ?_
    have h0:=hrep 0 _ rfl
    obtain⟨l⟩:=vals
    match l,hsz,h0 with
    | [a],_,h0=>
     have h0:Rep w F a (.str s):=h0
     rw[rep_str h0]
     refine(hC s v w hc hv).mono ?_
     rintro e w' ⟨rfl,hb⟩
     refine⟨_,rfl,.tup _ _ rfl (fun i x hx => ?_),hb⟩
     match i with
     |0=>cases hx;exact .int _ _
     |1=>cases hx;exact .con _ rfl
     |i+2=>simp at hx
   ·cases h
  ·cases h
 ·cases h
theorem strsOf_get : ∀ {cs:List SV} {xs:List (List UInt8)},strsOf cs=some xs->cs=xs.map (fun l => .str (bs l))
 | [],xs,h=>by cases h;rfl
 |c::r,xs,h=>by
  unfold strsOf at h
  split at h
  ·rename_i heq;cases heq
  ·rename_i s r' heq
   injection heq with e1 e2
   subst e1 e2
   split at h
   ·rename_i l hl
    cases h
    rw[List.map_cons,<- strsOf_get hl]
    rfl
   ·cases h
  ·cases h
theorem join_at (hE:Enters P g)
  (h0 : ∀ (a:Option Addr) (c:Nat) (sep:ByteArray) (w:World),Calls P g #[.slice a 0 c,.string sep] w fun e w'=>e = .returned (.string ⟨#[]⟩)/\w'=w)
  (hC : ∀ (bk o c:Nat) (xs:List ByteArray) (sep:ByteArray) (w:World),(∀ (j:Nat) x,xs[j]?=some x->w.cell? ⟨bk,o+j,none⟩=some (.string x))->bk<w.heap.size->xs.length<=140737488355328->xs.length<=c ->
   (Lib.join (xs.map (·.data.toList)) sep.data.toList).length<=140737488355328 ->
   Calls P g #[.slice (some ⟨bk,o,none⟩) xs.length c,.string sep] w fun e w'=>e = .returned (.string ⟨(Lib.join (xs.map (·.data.toList)) sep.data.toList).toArray⟩)/\Below w.heap.size w w')
  (h:xJoin args=some (r,exps)):CallAt P g args r exps:=by
 unfold xJoin at h
 split at h
 ·rename_i n cs sep
  split at h
  ·rename_i xs hxs
   split at h
   ·rename_i hc
    cases h
    obtain⟨hn,hm,hl⟩:=hc
    refine at_calls (ss:=[.sl n cs,.str sep]) hE none_exps fun w F vals hsz hrep => ?_
    have r0:=hrep 0 _ rfl
    have r1:=hrep 1 _ rfl
    obtain⟨l⟩:=vals
    match l,hsz,r0,r1 with
    | [a,b],_,r0,r1=>
     have r0:Rep w F a (.sl n cs):=r0
     have r1:Rep w F b (.str sep):=r1
     rw[rep_str r1]
     have hcs:=strsOf_get hxs
     have none_case : ∀ (A:Option Addr) (cap:Nat),xs=[]->Calls P g #[.slice A 0 cap,.string sep] w fun e w' => ∃v,e = .returned v/\Rep w' F v (.str (bs (Lib.join xs sep.data.toList)))/\Below w.heap.size w w':=by
      intro A cap hx
      subst hx
      refine(h0 A cap sep w).mono ?_
      rintro e w' ⟨rfl,rfl⟩
      exact⟨_,rfl,.str _,Below.refl _ _⟩
     cases r0 with
     |sl0 A _ cap _=>
      have hx:xs=[]:=by
       cases xs with
       |nil=>rfl
       |cons x xs=>simp at hcs
      subst hx
      cases hn
      exact none_case A cap rfl
     |sl p _ cap hle _ c hb hcell hr=>
      cases xs with
      |nil=>cases hn;exact none_case _ cap rfl
      |cons x xs=>
       have hcell' : ∀ (j:Nat) (y:ByteArray),((x::xs).map bs)[j]?=some y->w.cell? (p.add j)=some (.string y):=by
        intro j y hy
        have hj:cs[j]?=some (.str y):=by
         rw[hcs]
         rw[List.getElem?_map]at hy ⊢
         cases hz:(x::xs)[j]? with
         |none=>rw[hz]at hy;cases hy
         |some z=>rw[hz]at hy;cases hy;rfl
        rw[hcell j _ hj,rep_str (hr j _ hj)]
       have hp:p=⟨p.block,p.off,none⟩:=by
        have:=hcell' 0 _ rfl
        rw[show p.add 0=p from rfl]at this
        obtain⟨pb,po,ps⟩:=p
        cases ps with
        |none=>rfl
        |some _=>
         simp[World.cell?]at this
         split at this<;>simp at this
       have hlt:p.block<w.heap.size:=World.block_lt_of_cell? w p (hcell' 0 _ rfl)
       have key:=hC p.block p.off cap ((x::xs).map bs) sep w (fun j y hy=>by
        have:=hcell' j y hy
        rw[hp,add_mk]at this
        exact this) hlt (by rw[List.length_map];omega) (by rw[List.length_map];omega) (by
         rw[List.map_map]
         have:(x::xs).map ((fun y:ByteArray=>y.data.toList) ∘ bs)=x::xs:=by
          rw[show ((fun y:ByteArray=>y.data.toList) ∘ bs)=id from funext fun y=>bs_toList y]
          simp
         rw[this]
         exact hl)
       rw[List.length_map,hn,<- hp,List.map_map]at key
       have e1:(x::xs).map ((fun y:ByteArray=>y.data.toList) ∘ bs)=x::xs:=by
        rw[show ((fun y:ByteArray=>y.data.toList) ∘ bs)=id from funext fun y=>bs_toList y]
        simp
       rw[e1]at key
       refine key.mono ?_
       rintro e w' ⟨rfl,hb⟩
       exact⟨_,rfl,.str _,hb⟩
   ·cases h
  ·cases h
 ·cases h
end
end Go.Ev
namespace Go.Ev
open Go.RowKit
def insSt (st:St) (d g:Nat) (cs:List SV):St:=
 {tmp:=fun t=>(st.tmp t).kill d g
  obj:=fun d' g'=>if d'=d/\g'=g then some cs else st.obj d' g'
  gen:=fun d'=>st.gen d'+1
  hob:=fun d' g'=>(st.hob d' g').map fun ts=>ts.map fun t=>t.kill d g
  up:=fun t=>(st.up t).kill d g }
def xIns:List Arg->Option (Ret×List (Option (List SV)))
 | [.st false st [.ref d g 2 0 n,.sv (.int .i64 i),.ref d2 g2 2 0 1]]=>match st.obj d g,st.obj d2 g2 with
  |some cs,some [.str b,.sl m l]=>if d<N0 /\ ¬(d2=d/\g2=g)/\cs.length=n*2/\oneAll cs=true/\0<=i/\i.toNat<=n/\n<=100000 then
    some (.st (insSt st d g (cs.take (i.toNat*2)++[.str b,.sl m l]++cs.drop (i.toNat*2))) (.ref d g 2 0 (n+1)),[]) else none
  |_,_=>none
 |_=>none
def xDel:List Arg->Option (Ret×List (Option (List SV)))
 | [.st false st [.ref d g 2 0 n,.sv (.int .i64 i),.sv (.int .i64 j)]]=>match st.obj d g with
  |some cs=>if d<N0/\cs.length=n*2/\oneAll cs=true/\0<=i/\j=i+1/\i.toNat<n/\n<=100000 then
    some (.st (insSt st d g (cs.take (i.toNat*2)++cs.drop (i.toNat*2+2))) (.ref d g 2 0 (n-1)),[]) else none
  |none=>none
 |_=>none
def xOver:List Arg->Option (Ret×List (Option (List SV)))
 | [.st false st [.ref d g 2 0 1,.rfc d' g' 2 off n c]]=>if (st.obj d g).isSome=true/\(st.obj d' g').isSome=true /\ ¬(d=d'/\g=g')/\0<c then some (.st st (.sv (.bool false)),[]) else none
 |_=>none
theorem insSt_upd {s:St} {l:Loc} {d g:Nat} {cs:List SV} {v:TV}:insSt (s.upd l v) d g cs=(insSt s d g cs).upd l (v.kill d g):=by
 cases l with
 |tmp t=>
  refine St.ext' (fun x => ?_) (fun _ _=>rfl) (fun _=>rfl) rfl rfl
  show TV.kill d g (if x=t then v else s.tmp x)=if x=t then v.kill d g else (s.tmp x).kill d g
  split<;>rfl
 |up t=>
  refine St.ext' (fun _=>rfl) (fun _ _=>rfl) (fun _=>rfl) rfl (funext fun x => ?_)
  show TV.kill d g (if x=t then v else s.up x)=if x=t then v.kill d g else (s.up x).kill d g
  split<;>rfl
theorem ins_eqv {b:Bool} {s:St} {vs:List TV} {r:Ret} {e:List (Option (List SV))} (h:xIns [.st b s vs]=some (r,e)) (l:Loc) : ∃m:TV->TV,∀v,xIns [.st b (s.upd l v) vs]=some (r.upd l (m v),e):=by
 unfold xIns at h
 split at h
 ·rename_i st d g n i d2 g2 hargs
  cases hargs
  split at h
  ·rename_i cs bb m l0 h1 h2
   split at h
   ·rename_i hc
    cases h
    refine⟨fun v=>v.kill d g,fun v => ?_⟩
    unfold xIns
    simp only[upd_obj,h1,h2]
    rw[if_pos hc,insSt_upd]
    rfl
   ·cases h
  ·cases h
 ·cases h
theorem del_eqv {b:Bool} {s:St} {vs:List TV} {r:Ret} {e:List (Option (List SV))} (h:xDel [.st b s vs]=some (r,e)) (l:Loc) : ∃m:TV->TV,∀v,xDel [.st b (s.upd l v) vs]=some (r.upd l (m v),e):=by
 unfold xDel at h
 split at h
 ·rename_i st d g n i j hargs
  cases hargs
  split at h
  ·rename_i cs h1
   split at h
   ·rename_i hc
    cases h
    refine⟨fun v=>v.kill d g,fun v => ?_⟩
    unfold xDel
    simp only[upd_obj,h1]
    rw[if_pos hc,insSt_upd]
    rfl
   ·cases h
  ·cases h
 ·cases h
theorem over_eqv {b:Bool} {s:St} {vs:List TV} {r:Ret} {e:List (Option (List SV))} (h:xOver [.st b s vs]=some (r,e)) (l:Loc) : ∃m:TV->TV,∀v,xOver [.st b (s.upd l v) vs]=some (r.upd l (m v),e):=by
 unfold xOver at h
 split at h
 ·rename_i st d g d' g' off n c hargs
  cases hargs
  split at h
  ·rename_i hc
   cases h
   refine⟨id,fun v => ?_⟩
   unfold xOver
   simp only[upd_obj]
   rw[if_pos hc]
   rfl
  ·cases h
 ·cases h
section
variable {P:Program} {w0 w:World} {F I:Nat->Prop} {Z:Zy} {N:Nat} {β:Nat->Nat->Nat} {st:St} {a:Act}
theorem over_in {P : Program} {g : FuncId} {fn : Func} {tS tR e : TypeId} {size : Nat} (hf : P.funcs[g]? = some fn) (hname : (fn.name == "runtime.NumGoroutine") = false) (hb : fn.body.isNone = true) (hn : Extern.findNext fn = none) (he : Extern.find fn = some (Extern.SlicesOverlaps.overlaps #[tS, tS] #[tR]))
  (hel:elm P tS=some (e,2,size)) {k:Bool} {st:St} {vs:List TV} {r:Ret} {exps:List (Option (List SV))} (h:xOver [.st k st vs]=some (r,exps))
  (w0:World) (F I:Nat->Prop) (Z:Zy) (N:Nat) (β:Nat->Nat->Nat) (a:Act) (w:World) (vals:Array Value) (hrel:Rel w0 F I Z N β st a w) (hsz:vals.size=vs.length)
  (hv : ∀ (i:Nat) (v:TV),vs[i]?=some v->RepT β w (Mut F β st) (vals.getD i undef) v /\ ∀d g,v.id=some (d,g)->g<st.gen d) :
  Invk P g vals w fun e w' => ∃v,e = .returned v/\InRet w0 F I Z N st a w' k v r:=by
 unfold xOver at h
 split at h
 ·rename_i st1 d g1 d' g' off n c hargs
  cases hargs
  split at h
  ·rename_i hc
   cases h
   obtain⟨ho,ho',hne,hn0⟩:=hc
   obtain⟨cap,cs,ty,h1,h2,h3,h4⟩:=(hv 0 _ rfl).1
   obtain⟨cs',ty',h1',h2',h3',h4'⟩:=(hv 1 _ rfl).1
   have hvals:vals = #[vals.getD 0 undef,vals.getD 1 undef]:=by
    have:vals.size=2:=hsz
    apply Array.ext
    ·simpa using this
    ·intro i hi1 hi2
     have hi:i<2:=by simpa using hi2
     match i,hi with
     |0,_=>simp[Array.getD_eq_getD_getElem?,hi1]
     |1,_=>simp[Array.getD_eq_getD_getElem?,hi1]
   have hbne:β d g1≠β d' g':=fun e=>hne (hrel.inj _ _ _ _ ho ho' e)
   obtain⟨hu,i,hi,his,hib⟩:=elm_parts hel
   have hk:cs'.size≠0:=by omega
   refine .inr ⟨.bool false,?_,.bool false,rfl,rfl,β,hrel,.bool _,fun d g e=>by simp[TV.id]at e⟩
   rw[run_callFunc_extern hf hname hb hn he,hvals,h1,h1']
   rw[Lib.run_overlaps_apart w tS tR e hu 2 (fun w=>by rw[<- his];exact run_size hi w) ⟨β d g1,0,none⟩ ⟨β d' g',off,none⟩ 1 cap n c hbne ty ty' cs.size cs'.size (by simp only[World.shape?,h3]) (by simp only[World.shape?,h3']) hk
    (by simp only[World.frozen?,h3];simp) (by simp only[World.frozen?,h3];simp)]
   rfl
  ·cases h
 ·cases h
theorem Rel.genUp (h:Rel w0 F I Z N β st a w) {gen':Nat->Nat} (hg : ∀d,st.gen d<=gen' d):Rel w0 F I Z N β { st with gen:=gen' } a w where
 defers:=h.defers
 size:=h.size
 tmps:=h.tmps
 ids:=fun t d g hx=>Nat.lt_of_lt_of_le (h.ids t d g hx) (hg d)
 objs:=h.objs
 own:=h.own
 room:=h.room
 inj:=h.inj
 gens:=fun d g ho=>Nat.lt_of_lt_of_le (h.gens d g ho) (hg d)
 ext:=h.ext
 old:=h.old
 imps:=h.imps
 pin:=h.pin
 ups:=h.ups
 uids:=fun t d g hx=>Nat.lt_of_lt_of_le (h.uids t d g hx) (hg d)
 glob:=h.glob
 hobs:=fun d' g' ts hts=>by
  obtain⟨h1,h2,cs1,ty1,hb1,hall⟩:=h.hobs d' g' ts hts
  refine⟨h1,h2,cs1,ty1,hb1,fun i x hx => ?_⟩
  obtain⟨v,hv,ho,hr,hid⟩:=hall i x hx
  exact⟨v,hv,ho,hr,fun d1 g1 e=>Nat.lt_of_lt_of_le (hid d1 g1 e) (hg d1)⟩
theorem Rel.lessObj (h:Rel w0 F I Z N β st a w) {d g:Nat} {cs cs':List SV} (hdN:d<N0) (ho:st.obj d g=some cs) (hp : ∀ (i:Nat) (s:SV),cs'[i]?=some s->cs[i]?=some s):Rel w0 F I Z N β (st.set d g cs') a w:=by
 obtain⟨us,ty,hb,hall⟩:=h.objs d g cs ho
 exact h.set ho hb hb rfl (fun b _=>rfl) rfl rfl rfl rfl (fun i s hs=>hall i s (hp i s hs)) (.inl (h.no_hob (Nat.lt_trans hdN (by decide))))
theorem Rel.rename (h:Rel w0 F I Z N β st a w) {d g D G:Nat} {cs cs':List SV} (hd:d<N0) (hD:D<N0) (hne : ¬(d=D/\g=G)) (ho:st.obj d g=some cs) (hO:st.obj D G=some cs')
  (hno : ∀t d' g',(st.tmp t).id=some (d',g') -> ¬(d'=d/\g'=g) /\ ¬(d'=D/\g'=G)) (hnu : ∀t d' g',(st.up t).id=some (d',g') -> ¬(d'=d/\g'=g) /\ ¬(d'=D/\g'=G))
  (hnh : ∀ (d1 g1:Nat) (ts:List TV) (i:Nat) (x:TV) (d' g':Nat),st.hob d1 g1=some ts->ts[i]?=some x->x.id=some (d',g') -> ¬(d'=d/\g'=g) /\ ¬(d'=D/\g'=G)) :
  Rel w0 F I Z N (upd β d g (β D G)) { st with obj:=fun d' g'=>if d'=d/\g'=g then some cs' else if d'=D/\g'=G then none else st.obj d' g' } a w:=by
 generalize hs:({ st with obj:=fun d' g'=>if d'=d/\g'=g then some cs' else if d'=D/\g'=G then none else st.obj d' g' }:St)=s
 have etmp:s.tmp=st.tmp:=by rw[<- hs]
 have eup:s.up=st.up:=by rw[<- hs]
 have egen:s.gen=st.gen:=by rw[<- hs]
 have ehob:s.hob=st.hob:=by rw[<- hs]
 have eobj : ∀d' g',s.obj d' g'=if d'=d/\g'=g then some cs' else if d'=D/\g'=G then none else st.obj d' g':=fun d' g'=>by rw[<- hs]
 have hupd : ∀d' g',¬(d'=d/\g'=g)->upd β d g (β D G) d' g'=β d' g':=fun d' g' he=>if_neg he
 have hobj : ∀d' g',(s.obj d' g').isSome=true->(d'=d/\g'=g)\/((st.obj d' g').isSome=true /\ ¬(d'=d/\g'=g) /\ ¬(d'=D/\g'=G)):=by
  intro d' g' h1
  rw[eobj]at h1
  by_cases he:d'=d/\g'=g
  ·exact .inl he
  ·rw[if_neg he]at h1
   by_cases he2:d'=D/\g'=G
   ·rw[if_pos he2]at h1;cases h1
   ·rw[if_neg he2]at h1;exact .inr ⟨h1,he,he2⟩
 have hOs:(st.obj D G).isSome=true:=by rw[hO];rfl
 have hM : ∀b,Mut F (upd β d g (β D G)) s b->Mut F β st b:=by
  rintro b (hf|⟨d',g',h1,e⟩)
  ·exact .inl hf
  ·rcases hobj d' g' h1 with⟨rfl,rfl⟩|⟨h1',he,_⟩
   ·rw[upd_self]at e;exact .inr ⟨D,G,hOs,e⟩
   ·rw[hupd _ _ he]at e;exact .inr ⟨d',g',h1',e⟩
 have hrep : ∀ {v:Value} {x:SV},Rep w (Mut F β st) v x->Rep w (Mut F (upd β d g (β D G)) s) v x:=fun hr=>Rep.mono (w:=w) (fun _ _ _=>rfl) (fun b _ hm=>hM b hm) hr
 have hT : ∀ {v:Value} {x:TV},RepT β w (Mut F β st) v x->(∀d' g',x.id=some (d',g') -> ¬(d'=d/\g'=g) /\ ¬(d'=D/\g'=G))->RepT (upd β d g (β D G)) w (Mut F (upd β d g (β D G)) s) v x:=by
  intro v x hold hids
  cases x with
  |sv s=>exact hrep hold
  |nil=>exact hold
  |undef=>trivial
  |skip=>exact hold
  |emp=>exact hold
  |ptr d' g' off=>show _=_;rw[hupd d' g' (hids d' g' rfl).1];exact hold
  |pst d' g'=>show _=_;rw[hupd d' g' (hids d' g' rfl).1];exact hold
  |ref d' g' size off n=>
   obtain⟨cap,cs',ty',h1,h2,h3,h4⟩:=hold
   rw[<- hupd d' g' (hids d' g' rfl).1]at h1 h3
   exact⟨cap,cs',ty',h1,h2,h3,h4⟩
  |rfc d' g' size off n c=>
   obtain⟨cs',ty',h1,h2,h3,h4⟩:=hold
   rw[<- hupd d' g' (hids d' g' rfl).1]at h1 h3
   exact⟨cs',ty',h1,h2,h3,h4⟩
 exact {
  defers:=h.defers
  size:=h.size
  tmps:=fun u=>by rw[etmp];exact hT (h.tmps u) (hno u)
  ids:=fun u d' g' hx=>by rw[egen];rw[etmp]at hx;exact h.ids u d' g' hx
  objs:=fun d' g' cells hc=>by
   rw[eobj]at hc
   by_cases he:d'=d/\g'=g
   ·rw[if_pos he]at hc
    obtain⟨rfl,rfl⟩:=he
    cases hc
    obtain⟨us,ty,hb,hall⟩:=h.objs D G cs' hO
    refine⟨us,ty,by rw[upd_self];exact hb,fun i s hs => ?_⟩
    obtain⟨h1,u,hu,hr⟩:=hall i s hs
    exact⟨h1,u,hu,hrep hr⟩
   ·rw[if_neg he]at hc
    by_cases he2:d'=D/\g'=G
    ·rw[if_pos he2]at hc;cases hc
    ·rw[if_neg he2]at hc
     obtain⟨us,ty,hb,hall⟩:=h.objs d' g' cells hc
     refine⟨us,ty,by rw[hupd _ _ he];exact hb,fun i s hs => ?_⟩
     obtain⟨h1,u,hu,hr⟩:=hall i s hs
     exact⟨h1,u,hu,hrep hr⟩
  own:=fun d' g' h1=>by
   rcases hobj d' g' h1 with⟨rfl,rfl⟩|⟨h1',he,_⟩
   ·rw[upd_self]
    exact⟨fun _=>(h.own D G hOs).1 (.inl hD),fun hn _=>absurd hd (by omega)⟩
   ·rw[hupd _ _ he];exact h.own d' g' h1'
  room:=h.room
  inj:=fun d1 g1 d2 g2 h1 h2 e=>by
   rcases hobj d1 g1 h1 with⟨rfl,rfl⟩|⟨h1',he1,hq1⟩<;>rcases hobj d2 g2 h2 with⟨rfl,rfl⟩|⟨h2',he2,hq2⟩
   ·exact⟨rfl,rfl⟩
   ·rw[upd_self,hupd _ _ he2]at e
    have:=h.inj D G d2 g2 hOs h2' e
    exact(hq2 ⟨this.1.symm,this.2.symm⟩).elim
   ·rw[upd_self,hupd _ _ he1]at e
    exact(hq1 (h.inj d1 g1 D G h1' hOs e)).elim
   ·rw[hupd _ _ he1,hupd _ _ he2]at e
    exact h.inj d1 g1 d2 g2 h1' h2' e
  gens:=fun d' g' h1=>by
   rw[egen]
   rcases hobj d' g' h1 with⟨rfl,rfl⟩|⟨h1',_⟩
   ·exact h.gens d' g' (by rw[ho];rfl)
   ·exact h.gens d' g' h1'
  ext:=h.ext
  old:=h.old
  imps:=h.imps
  pin:=fun d' g' hd' hd''=>(hupd d' g' (fun e=>by omega)).trans (h.pin d' g' hd' hd'')
  ups:=fun u=>by rw[eup];exact hT (h.ups u) (hnu u)
  uids:=fun u d' g' hx=>by rw[egen];rw[eup]at hx;exact h.uids u d' g' hx
  glob:=fun g v hg=>hrep (h.glob g v hg)
  hobs:=fun d' g' ts hts=>by
   rw[ehob]at hts
   obtain⟨h1,h2,cs1,ty1,hb1,hall⟩:=h.hobs d' g' ts hts
   have hH:N0<H0:=by decide
   have hne1 : ¬(d'=d/\g'=g):=fun e=>by omega
   have hne2 : ¬(d'=D/\g'=G):=fun e=>by omega
   refine⟨h1,by rw[eobj,if_neg hne1,if_neg hne2];exact h2,cs1,ty1,by rw[hupd _ _ hne1];exact hb1,fun i x hx => ?_⟩
   obtain⟨v,hv,ho,hr,hid⟩:=hall i x hx
   exact⟨v,hv,ho,hT hr (fun a1 a2 e=>hnh d' g' ts i x a1 a2 hts hx e),fun a1 a2 e=>by rw[egen];exact hid a1 a2 e⟩ }
structure InsLeaves (st:St) (d g n:Nat) (cs:List SV) (s:St) (t:TV):Prop where
 tmp : ∀u,s.tmp u=st.tmp u
 up : ∀u,s.up u=st.up u
 hob : ∀d' g',s.hob d' g'=st.hob d' g'
 here:(∃cs1,(∀d' g',s.obj d' g'=if d'=d/\g'=g then some cs1 else st.obj d' g')/\(∀ (i:Nat) (x:SV),cs[i]?=some x->cs1[i]?=some x)/\(∀d',s.gen d'=st.gen d')/\t = .ref d g 2 0 n) \/
  ∃D,D<N0/\(∀d' g',s.obj d' g'=if d'=D/\g'=st.gen D then some cs else st.obj d' g')/\(∀d',s.gen d'=if d'=D then st.gen D+1 else st.gen d')/\t = .ref D (st.gen D) 2 0 n
theorem st_eq {s s':St} (h1 : ∀u,s.tmp u=s'.tmp u) (h2 : ∀d g,s.obj d g=s'.obj d g) (h3 : ∀d,s.gen d=s'.gen d) (h4 : ∀d g,s.hob d g=s'.hob d g) (h5 : ∀u,s.up u=s'.up u):s=s':=by
 obtain⟨a1,a2,a3,a4,a5⟩:=s
 obtain⟨b1,b2,b3,b4,b5⟩:=s'
 have e1:a1=b1:=funext h1
 have e2:a2=b2:=funext fun d=>funext fun g=>h2 d g
 have e3:a3=b3:=funext h3
 have e4:a4=b4:=funext fun d=>funext fun g=>h4 d g
 have e5:a5=b5:=funext h5
 subst e1 e2 e3 e4 e5
 rfl
theorem InsLeaves.ups {s:St} {vs:List TV} (h : ∀u,s.up u=(st.enter vs).up u):(∀u,s.leave.tmp u=st.tmp u) /\ ∀u,s.leave.up u=st.up u:=by
 constructor
 ·intro u
  show s.up (2*u)=_
  rw[h]
  show (if 2*u%2=0 then st.tmp (2*u/2) else st.up (2*u/2))=_
  rw[if_pos (by omega),show 2*u/2=u by omega]
 ·intro u
  show s.up (2*u+1)=_
  rw[h]
  show (if (2*u+1)%2=0 then st.tmp ((2*u+1)/2) else st.up ((2*u+1)/2))=_
  rw[if_neg (by omega),show (2*u+1)/2=u by omega]
theorem leaves_here {s:St} {vs:List TV} {d g n:Nat} {cs:List SV} (cs1:List SV) {rs:List ResultVar} (hr:retI P s rs=some (.ref d g 2 0 n)) (h1 : ∀u,s.up u=(st.enter vs).up u) (h2 : ∀d' g',s.hob d' g'=st.hob d' g')
  (h3 : ∀d' g',s.obj d' g'=if d'=d/\g'=g then some cs1 else st.obj d' g') (h4 : ∀d',s.gen d'=st.gen d') (hp : ∀ (i:Nat) (x:SV),cs[i]?=some x->cs1[i]?=some x):RZ P rs (InsLeaves st d g n cs) .ret s:=
 rz_ret hr ⟨(InsLeaves.ups h1).1,(InsLeaves.ups h1).2,h2,.inl ⟨cs1,h3,hp,h4,rfl⟩⟩ (frzR_ref hr)
theorem leaves_new {s:St} {vs:List TV} {d g n:Nat} {cs:List SV} (D:Nat) {rs:List ResultVar} (hr:retI P s rs=some (.ref D (st.gen D) 2 0 n)) (hD:D<N0) (h1 : ∀u,s.up u=(st.enter vs).up u) (h2 : ∀d' g',s.hob d' g'=st.hob d' g')
  (h3 : ∀d' g',s.obj d' g'=if d'=D/\g'=st.gen D then some cs else st.obj d' g') (h4 : ∀d',s.gen d'=if d'=D then st.gen D+1 else st.gen d'):RZ P rs (InsLeaves st d g n cs) .ret s:=
 rz_ret hr ⟨(InsLeaves.ups h1).1,(InsLeaves.ups h1).2,h2,.inr ⟨D,hD,h3,h4,rfl⟩⟩ (frzR_ref hr)
theorem InsLeaves.to {s:St} {t:TV} {d g n:Nat} {cs cs0:List SV} (h:InsLeaves st d g n cs s t) {w1:World} {β1:Nat->Nat->Nat} {v:Value} (h0:Rel w0 F I Z N β st a w) (hd:d<N0) (ho:st.obj d g=some cs0)
  (hr:Rel w0 F I Z N β1 s a w1) (ht:RepT β1 w1 (Mut F β1 s) v t) : ∃β',Rel w0 F I Z N β' (insSt st d g cs) a w1/\RepT β' w1 (Mut F β' (insSt st d g cs)) v (.ref d g 2 0 n) /\ ∀d' g',(TV.ref d g 2 0 n).id=some (d',g')->g'<(insSt st d g cs).gen d':=by
 have hgen : ∀d' g',(TV.ref d g 2 0 n).id=some (d',g')->g'<(insSt st d g cs).gen d':=by
  intro d' g' e
  simp only[TV.id,Option.some.injEq,Prod.mk.injEq]at e
  obtain⟨rfl,rfl⟩:=e
  exact Nat.lt_succ_of_lt (h0.gens _ _ (by rw[ho];rfl))
 obtain⟨etmp,eup,ehob,here⟩:=h
 rcases here with⟨cs1,eobj,hpre,egen,rfl⟩|⟨D,hD,eobj,egen,rfl⟩
 ·have h1:=((hr.kill d g).lessObj (cs:=cs1) (cs':=cs) hd (by show s.obj d g=_;rw[eobj,if_pos ⟨rfl,rfl⟩]) hpre).genUp (gen':=fun d'=>st.gen d'+1) (fun d'=>by show s.gen d'<=_;rw[egen];exact Nat.le_succ _)
  have e:({ (s.kill d g).set d g cs with gen:=fun d'=>st.gen d'+1 }:St)=insSt st d g cs:=by
   refine st_eq (fun u => ?_) (fun d' g' => ?_) (fun d'=>rfl) (fun d' g' => ?_) (fun u => ?_)
   ·show (s.tmp u).kill d g=(st.tmp u).kill d g
    rw[etmp]
   ·show (if d'=d/\g'=g then some cs else s.obj d' g')=(if d'=d/\g'=g then some cs else st.obj d' g')
    by_cases he:d'=d/\g'=g
    ·rw[if_pos he,if_pos he]
    ·rw[if_neg he,if_neg he,eobj,if_neg he]
   ·show (s.hob d' g').map _=(st.hob d' g').map _
    rw[ehob]
   ·show (s.up u).kill d g=(st.up u).kill d g
    rw[eup]
  rw[e]at h1
  exact⟨β1,h1,ht,hgen⟩
 ·have hos:(st.obj d g).isSome=true:=by rw[ho];rfl
  have hne : ¬(d=D/\g=st.gen D):=fun e=>by
   have:=h0.gens d g hos
   obtain⟨rfl,e2⟩:=e
   omega
  have hko:(s.kill d g).obj d g=some cs0:=by
   show s.obj d g=_
   rw[eobj,if_neg hne];exact ho
  have hkO:(s.kill d g).obj D (st.gen D)=some cs:=by
   show s.obj D (st.gen D)=_
   rw[eobj,if_pos ⟨rfl,rfl⟩]
  have hid : ∀ {x:TV} {d' g':Nat},(∀d' g',x.id=some (d',g')->g'<st.gen d')->(x.kill d g).id=some (d',g') -> ¬(d'=d/\g'=g) /\ ¬(d'=D/\g'=st.gen D):=by
   intro x d' g' hx hk
   obtain⟨h1,h2⟩:=kill_id hk
   refine⟨h2,fun e => ?_⟩
   have:=hx d' g' h1
   obtain⟨rfl,rfl⟩:=e
   exact absurd this (Nat.lt_irrefl _)
  have h1:=((hr.kill d g).rename hd hD hne hko hkO (fun t d' g' e=>hid (fun d1 g1 e1=>h0.ids t d1 g1 e1) (by rw[<- etmp];exact e)) (fun t d' g' e=>hid (fun d1 g1 e1=>h0.uids t d1 g1 e1) (by rw[<- eup];exact e))
   (fun d1 g1 ts i x d' g' e1 e2 e3=>by
    have e1:(s.hob d1 g1).map (fun ts=>ts.map fun t=>t.kill d g)=some ts:=e1
    rw[ehob]at e1
    obtain⟨ts0,hts0,rfl⟩:=map_some e1
    rw[List.getElem?_map]at e2
    obtain⟨x0,hx0,rfl⟩:=map_some e2
    obtain⟨_,_,cs9,ty9,_,hall⟩:=h0.hobs d1 g1 ts0 hts0
    obtain⟨_,_,_,_,hidx⟩:=hall i x0 hx0
    exact hid hidx e3)).genUp (gen':=fun d'=>st.gen d'+1) (fun d'=>by
     show s.gen d'<=_
     rw[egen]
     split
     ·rename_i e;rw[e];exact Nat.le_refl _
     ·exact Nat.le_succ _)
  have hnone:st.obj D (st.gen D)=none:=by
   cases e:st.obj D (st.gen D) with
   |none=>rfl
   |some x=>exact absurd (h0.gens D (st.gen D) (by rw[e];rfl)) (Nat.lt_irrefl _)
  have e:({ (s.kill d g) with obj:=fun d' g'=>if d'=d/\g'=g then some cs else if d'=D/\g'=st.gen D then none else (s.kill d g).obj d' g',gen:=fun d'=>st.gen d'+1 }:St)=insSt st d g cs:=by
   refine st_eq (fun u => ?_) (fun d' g' => ?_) (fun d'=>rfl) (fun d' g' => ?_) (fun u => ?_)
   ·show (s.tmp u).kill d g=(st.tmp u).kill d g
    rw[etmp]
   ·show (if d'=d/\g'=g then some cs else if d'=D/\g'=st.gen D then none else s.obj d' g')=(if d'=d/\g'=g then some cs else st.obj d' g')
    by_cases he:d'=d/\g'=g
    ·rw[if_pos he,if_pos he]
    ·rw[if_neg he,if_neg he]
     by_cases he2:d'=D/\g'=st.gen D
     ·rw[if_pos he2];obtain⟨rfl,rfl⟩:=he2;exact hnone.symm
     ·rw[if_neg he2,eobj,if_neg he2]
   ·show (s.hob d' g').map _=(st.hob d' g').map _
    rw[ehob]
   ·show (s.up u).kill d g=(st.up u).kill d g
    rw[eup]
  rw[e]at h1
  refine⟨_,h1,?_,hgen⟩
  obtain⟨cap,cs',ty',a1,a2,a3,a4⟩:=ht
  exact⟨cap,cs',ty',by rw[upd_self];exact a1,a2,by rw[upd_self];exact a3,a4⟩
theorem leaves_in {C:Cx} {G:List (Nat×Value)} (hZ:Z.gl=G) (hC:TabOk C.P G C.X) (hgood:Good C.P C.good) {f:FuncId} {d g n m:Nat} {vs:List TV} {cs cs0:List SV}
  (hd:d<N0) (ho:st.obj d g=some cs0)
  (hw : ∀c,n<=c -> ∃k s t,callN C.P C.X C.mu C.good k f [.st false st (.rfc d g 2 0 n c::vs)]=some (.st s t,[])/\InsLeaves st d g m cs s t)
  {vals:Array Value} (hrel:Rel w0 F I Z N β st a w) (hsz:vals.size=vs.length+1)
  (hv : ∀ (i:Nat) (v:TV),(TV.ref d g 2 0 n::vs)[i]?=some v->RepT β w (Mut F β st) (vals.getD i undef) v /\ ∀d g,v.id=some (d,g)->g<st.gen d) :
  Invk C.P f vals w fun e w' => ∃v,e = .returned v/\InRet w0 F I Z N st a w' false v (.st (insSt st d g cs) (.ref d g 2 0 m)):=by
 obtain⟨⟨cap,us,ty,h1,h2,h3,h4⟩,hid⟩:=hv 0 _ rfl
 obtain⟨k,s,t,hc,hl⟩:=hw cap h2
 refine((callN_all hC hgood C.mu k).2.1 f false st _ _ _ hc w0 F I Z N β a w vals hZ hrel (by simpa using hsz) (fun i v hi => ?_)).mono ?_
 ·cases i with
  |zero=>
   simp only[List.getElem?_cons_zero,Option.some.injEq]at hi
   subst hi
   exact⟨⟨us,ty,h1,h2,h3,h4⟩,fun d' g' e=>hid d' g' e⟩
  |succ i=>exact hv (i+1) v hi
 ·rintro e w' ⟨v,rfl,_,β1,hr,ht,_⟩
  obtain⟨β',a1,a2,a3⟩:=hl.to hrel hd ho hr ht
  exact⟨v,rfl,rfl,β',a1,a2,a3⟩
end
end Go.Ev
namespace Go.Proofs.YtjphnjffglapgaaGreatDoor
open Go.Ev
noncomputable abbrev muF0 (f:Nat):Bool:=Nat.beq f 151
noncomputable abbrev muF1 (f:Nat):Bool:=muF0 f
noncomputable abbrev muF2 (f:Nat):Bool:=muF1 f
noncomputable abbrev muF3 (f:Nat):Bool:=muF2 f
noncomputable abbrev muF4 (f:Nat):Bool:=muF3 f
noncomputable abbrev muF5 (f:Nat):Bool:=muF4 f
noncomputable abbrev muF6 (f:Nat):Bool:=Bool.rec (muF5 f) true (Nat.beq f 41)
noncomputable abbrev muF7 (f:Nat):Bool:=Bool.rec (Bool.rec (muF6 f) true (Nat.beq f (1000000+9))) true (Nat.beq f 9)
noncomputable abbrev muF8 (f:Nat):Bool:=Bool.rec (Bool.rec (muF7 f) true (Nat.beq f (1000000+30))) true (Nat.beq f 30)
noncomputable abbrev muF9 (f:Nat):Bool:=Bool.rec (Bool.rec (muF8 f) true (Nat.beq f (1000000+28))) true (Nat.beq f 28)
noncomputable abbrev muF10 (f:Nat):Bool:=Bool.rec (Bool.rec (muF9 f) true (Nat.beq f (1000000+7))) true (Nat.beq f 7)
noncomputable abbrev muF11 (f:Nat):Bool:=Bool.rec (Bool.rec (muF10 f) true (Nat.beq f (1000000+11))) true (Nat.beq f 11)
noncomputable abbrev muF12 (f:Nat):Bool:=Bool.rec (Bool.rec (muF11 f) true (Nat.beq f (1000000+13))) true (Nat.beq f 13)
noncomputable abbrev muF13 (f:Nat):Bool:=Bool.rec (Bool.rec (muF12 f) true (Nat.beq f (1000000+29))) true (Nat.beq f 29)
noncomputable abbrev muF14 (f:Nat):Bool:=Bool.rec (Bool.rec (muF13 f) true (Nat.beq f (1000000+22))) true (Nat.beq f 22)
noncomputable abbrev muF15 (f:Nat):Bool:=Bool.rec (Bool.rec (muF14 f) true (Nat.beq f (1000000+23))) true (Nat.beq f 23)
noncomputable abbrev muF16 (f:Nat):Bool:=Bool.rec (Bool.rec (muF15 f) true (Nat.beq f (1000000+27))) true (Nat.beq f 27)
noncomputable abbrev muF17 (f:Nat):Bool:=Bool.rec (Bool.rec (muF16 f) true (Nat.beq f (1000000+10))) true (Nat.beq f 10)
noncomputable abbrev muF18 (f:Nat):Bool:=muF17 f
noncomputable abbrev muF19 (f:Nat):Bool:=Bool.rec (Bool.rec (muF18 f) true (Nat.beq f (1000000+8))) true (Nat.beq f 8)
noncomputable abbrev muF20 (f:Nat):Bool:=Bool.rec (Bool.rec (muF19 f) true (Nat.beq f (1000000+12))) true (Nat.beq f 12)
noncomputable abbrev muF21 (f:Nat):Bool:=Bool.rec (Bool.rec (muF20 f) true (Nat.beq f (1000000+14))) true (Nat.beq f 14)
noncomputable abbrev muF22 (f:Nat):Bool:=Bool.rec (Bool.rec (muF21 f) true (Nat.beq f (1000000+25))) true (Nat.beq f 25)
noncomputable abbrev muF23 (f:Nat):Bool:=muF22 f
noncomputable abbrev muF24 (f:Nat):Bool:=Bool.rec (Bool.rec (muF23 f) true (Nat.beq f (1000000+15))) true (Nat.beq f 15)
noncomputable abbrev muF25 (f:Nat):Bool:=Bool.rec (Bool.rec (muF24 f) true (Nat.beq f (1000000+44))) true (Nat.beq f 44)
noncomputable abbrev muF26 (f:Nat):Bool:=muF25 f
noncomputable abbrev muF27 (f:Nat):Bool:=muF26 f
noncomputable abbrev muF28 (f:Nat):Bool:=muF27 f
noncomputable abbrev muF29 (f:Nat):Bool:=muF28 f
noncomputable abbrev muF30 (f:Nat):Bool:=muF29 f
noncomputable abbrev muF31 (f:Nat):Bool:=muF30 f
noncomputable abbrev muF32 (f:Nat):Bool:=Bool.rec (Bool.rec (Bool.rec (Bool.rec (muF31 f) true (Nat.beq f (2000000+7))) true (Nat.beq f (2000000+9))) true (Nat.beq f (2000000+8))) true (Nat.beq f (2000000+10))
noncomputable abbrev muF (f:Nat):Bool:=muF32 f
theorem muF_at0:muF 151=true:=by kernel_rfl
attribute [go_sem] muF_at0
theorem muF_at6:muF 41=true:=by kernel_rfl
attribute [go_sem] muF_at6
theorem muF_at7:muF 9=true:=by kernel_rfl
theorem muF_in7:muF (1000000+9)=true:=by kernel_rfl
attribute [go_sem] muF_at7 muF_in7
theorem muF_at8:muF 30=true:=by kernel_rfl
theorem muF_in8:muF (1000000+30)=true:=by kernel_rfl
attribute [go_sem] muF_at8 muF_in8
theorem muF_at9:muF 28=true:=by kernel_rfl
theorem muF_in9:muF (1000000+28)=true:=by kernel_rfl
attribute [go_sem] muF_at9 muF_in9
theorem muF_at10:muF 7=true:=by kernel_rfl
theorem muF_in10:muF (1000000+7)=true:=by kernel_rfl
attribute [go_sem] muF_at10 muF_in10
theorem muF_at11:muF 11=true:=by kernel_rfl
theorem muF_in11:muF (1000000+11)=true:=by kernel_rfl
attribute [go_sem] muF_at11 muF_in11
theorem muF_at12:muF 13=true:=by kernel_rfl
theorem muF_in12:muF (1000000+13)=true:=by kernel_rfl
attribute [go_sem] muF_at12 muF_in12
theorem muF_at13:muF 29=true:=by kernel_rfl
theorem muF_in13:muF (1000000+29)=true:=by kernel_rfl
attribute [go_sem] muF_at13 muF_in13
theorem muF_at14:muF 22=true:=by kernel_rfl
theorem muF_in14:muF (1000000+22)=true:=by kernel_rfl
attribute [go_sem] muF_at14 muF_in14
theorem muF_at15:muF 23=true:=by kernel_rfl
theorem muF_in15:muF (1000000+23)=true:=by kernel_rfl
attribute [go_sem] muF_at15 muF_in15
theorem muF_at16:muF 27=true:=by kernel_rfl
theorem muF_in16:muF (1000000+27)=true:=by kernel_rfl
attribute [go_sem] muF_at16 muF_in16
theorem muF_at17:muF 10=true:=by kernel_rfl
theorem muF_in17:muF (1000000+10)=true:=by kernel_rfl
attribute [go_sem] muF_at17 muF_in17
theorem muF_at19:muF 8=true:=by kernel_rfl
theorem muF_in19:muF (1000000+8)=true:=by kernel_rfl
attribute [go_sem] muF_at19 muF_in19
theorem muF_at20:muF 12=true:=by kernel_rfl
theorem muF_in20:muF (1000000+12)=true:=by kernel_rfl
attribute [go_sem] muF_at20 muF_in20
theorem muF_at21:muF 14=true:=by kernel_rfl
theorem muF_in21:muF (1000000+14)=true:=by kernel_rfl
attribute [go_sem] muF_at21 muF_in21
theorem muF_at22:muF 25=true:=by kernel_rfl
theorem muF_in22:muF (1000000+25)=true:=by kernel_rfl
attribute [go_sem] muF_at22 muF_in22
theorem muF_at24:muF 15=true:=by kernel_rfl
theorem muF_in24:muF (1000000+15)=true:=by kernel_rfl
attribute [go_sem] muF_at24 muF_in24
theorem muF_at25:muF 44=true:=by kernel_rfl
theorem muF_in25:muF (1000000+44)=true:=by kernel_rfl
attribute [go_sem] muF_at25 muF_in25
def GMet (_:List (Nat×Value)):Prop:=True
theorem gmet:GMet []:=trivial
noncomputable def xS:Callf:=fun g args=>
 if Nat.beq g 86 then xIndex args else
 if Nat.beq g 109 then xCmp args else
 if Nat.beq g 136 then xCount args else
 if Nat.beq g 35 then xTrim args else
 if Nat.beq g 100 then xTrimLeft args else
 if Nat.beq g 63 then xJoin args else
 if Nat.beq g 101 then xAtoi args else
 cloneX 128 g args
theorem xS_none (f:FuncId) (k:Bool) (st:St) (vs:List TV):xS f [.st k st vs]=none:=by
 have no : ∀ {c:Prop} [Decidable c] {a b:Option (Ret×List (Option (List SV)))},a=none->b=none->(if c then a else b)=none:=fun h1 h2=>by split<;>assumption
 unfold xS cloneX
 repeat (refine no rfl ?_)
 rfl
noncomputable def CB:Cx:={ P:=Tryz.prog,X:=xS,mu:=muF,good:=good }
theorem CB_P:CB.P=Tryz.prog:=_root_.id rfl
theorem CB_mu (f:Nat):CB.mu f=muF f:=_root_.id rfl
attribute [go_sem] CB_P CB_mu
noncomputable def xT:Callf:=fun g args=>
 if Nat.beq g 91 then xGenSplit args else
 xS g args
noncomputable def CZ:Cx:={ P:=Tryz.prog,X:=xT,mu:=muF,good:=good }
theorem CZ_P:CZ.P=Tryz.prog:=_root_.id rfl
theorem CZ_mu (f:Nat):CZ.mu f=muF f:=_root_.id rfl
noncomputable def XL:Callf:=fun g args=>if Nat.beq g 149 then (match args with
  | [.sv s,.sv (.int .u64 (.ofNat k)),.sv (.int .i64 (.ofNat n))]=>match decV s with
   |some xs=>if k<32/\xs.length<=n/\n<=xs.length+1 then some (.row ((limN n (wth xs*2^k)).map limb) 1 0 n,[none,none,none]) else none
   |none=>none
  |_=>none) else
 if Nat.beq g 61 then xSplit args else
 if Nat.beq g 23 then xIns args else
 if Nat.beq g 27 then xDel args else
 CZ.X g args
noncomputable def CX:Cx:={ CZ with X:=XL }
theorem CX_P:CX.P=Tryz.prog:=_root_.id rfl
theorem CX_mu (f:Nat):CX.mu f=muF f:=_root_.id rfl
attribute [go_sem] CZ_P CZ_mu CX_P CX_mu Nat.reduceBEq
end Go.Proofs.YtjphnjffglapgaaGreatDoor
namespace Go.Proofs
open Go.Shelf
def Tryz.lays156_ren:Go.Shelf.Ren:=⟨fun|156=>63|165=>93|166=>94|169=>95|240=>121|241=>122|276=>138|277=>139|n=>n,fun|31=>28|9=>9|3=>3|4=>4|0=>0|20=>20|72=>123|76=>127|70=>121|37=>107|75=>126|127=>138|164=>149|5=>5|80=>129|n=>n,fun|n=>n⟩
theorem Tryz.lays156:Go.Proofs.Lays.n156 Tryz.prog Tryz.lays156_ren:={
 mixed:=by kernel_rfl
 f156:=Tryz.func63.trans (congrArg some (by kernel_rfl))
 f165:=Tryz.func93.trans (congrArg some (by kernel_rfl))
 f166:=Tryz.func94.trans (congrArg some (by kernel_rfl))
 f169:=Tryz.func95.trans (congrArg some (by kernel_rfl))
 f240:=Tryz.func121.trans (congrArg some (by kernel_rfl))
 f241:=Tryz.func122.trans (congrArg some (by kernel_rfl))
 f276:=Tryz.func138.trans (congrArg some (by kernel_rfl))
 f277:=Tryz.func139.trans (congrArg some (by kernel_rfl))
 t0:=Tryz.underlying0
 a0:=Tryz.isAgg0
 z0:=Tryz.sizeOf0
 v0:=Tryz.zeroValue0
 t3:=Tryz.underlying3
 a3:=Tryz.isAgg3
 z3:=Tryz.sizeOf3
 v3:=Tryz.zeroValue3
 t4:=Tryz.underlying4
 a4:=Tryz.isAgg4
 z4:=Tryz.sizeOf4
 v4:=Tryz.zeroValue4
 t9:=Tryz.underlying9
 a9:=Tryz.isAgg9
 z9:=Tryz.sizeOf9
 v9:=Tryz.zeroValue9
 t20:=Tryz.underlying20
 a20:=Tryz.isAgg20
 z20:=Tryz.sizeOf20
 v20:=Tryz.zeroValue20
 t31:=Tryz.underlying28
 a31:=Tryz.isAgg28
 z31:=Tryz.sizeOf28
 v31:=Tryz.zeroValue28
 t37:=Tryz.underlying107
 a37:=Tryz.isAgg107
 z37:=Tryz.sizeOf107
 v37:=Tryz.zeroValue107
 t70:=Tryz.underlying121
 a70:=Tryz.isAgg121
 z70:=Tryz.sizeOf121
 v70:=Tryz.zeroValue121
 t72:=Tryz.underlying123
 a72:=Tryz.isAgg123
 z72:=Tryz.sizeOf123
 v72:=Tryz.zeroValue123
 t75:=Tryz.underlying126
 a75:=Tryz.isAgg126
 z75:=Tryz.sizeOf126
 v75:=Tryz.zeroValue126
 t76:=Tryz.underlying127
 a76:=Tryz.isAgg127
 z76:=Tryz.sizeOf127
 v76:=Tryz.zeroValue127
 t127:=Tryz.underlying138
 a127:=Tryz.isAgg138
 z127:=Tryz.sizeOf138
 v127:=Tryz.zeroValue138
 t164:=Tryz.underlying149
 a164:=Tryz.isAgg149
 z164:=Tryz.sizeOf149
 v164:=Tryz.zeroValue149 }
theorem Tryz.Builder_Extra_156:Builder.Extra Tryz.prog Tryz.lays156_ren:={
 sizeBuilder:=by kernel_rfl
 liesBuilder:=by kernel_rfl
 t5:=Tryz.underlying5
 a5:=Tryz.isAgg5
 z5:=Tryz.sizeOf5
 v5:=Tryz.zeroValue5
 infoByte:=by kernel_rfl
 cellsByte:=by kernel_rfl
 sizeByte:=by kernel_rfl
 neB5:=by decide }
def Tryz.lays160_ren:Go.Shelf.Ren:=⟨fun|160=>35|232=>55|231=>54|227=>56|234=>58|233=>57|236=>60|235=>59|228=>87|271=>90|151=>89|197=>88|120=>117|152=>116|260=>115|137=>34|119=>132|224=>133|225=>134|217=>53|266=>86|n=>n,fun|9=>9|4=>4|3=>3|5=>5|117=>95|116=>94|0=>0|124=>98|21=>21|105=>117|46=>108|119=>144|139=>147|138=>146|n=>n,fun|3=>1|4=>2|n=>n⟩
theorem Tryz.lays160:Go.Proofs.Lays.n160 Tryz.prog Tryz.lays160_ren:={
 mixed:=by kernel_rfl
 f119:=Tryz.func132.trans (congrArg some (by kernel_rfl))
 f120:=Tryz.func117.trans (congrArg some (by kernel_rfl))
 f137:=Tryz.func34.trans (congrArg some (by kernel_rfl))
 f151:=Tryz.func89.trans (congrArg some (by kernel_rfl))
 f152:=Tryz.func116.trans (congrArg some (by kernel_rfl))
 f160:=Tryz.func35.trans (congrArg some (by kernel_rfl))
 f197:=Tryz.func88.trans (congrArg some (by kernel_rfl))
 f217:=Tryz.func53.trans (congrArg some (by kernel_rfl))
 f224:=Tryz.func133.trans (congrArg some (by kernel_rfl))
 f225:=Tryz.func134.trans (congrArg some (by kernel_rfl))
 f227:=Tryz.func56.trans (congrArg some (by kernel_rfl))
 f228:=Tryz.func87.trans (congrArg some (by kernel_rfl))
 f231:=Tryz.func54.trans (congrArg some (by kernel_rfl))
 f232:=Tryz.func55.trans (congrArg some (by kernel_rfl))
 f233:=Tryz.func57.trans (congrArg some (by kernel_rfl))
 f234:=Tryz.func58.trans (congrArg some (by kernel_rfl))
 f235:=Tryz.func59.trans (congrArg some (by kernel_rfl))
 f236:=Tryz.func60.trans (congrArg some (by kernel_rfl))
 f260:=Tryz.func115.trans (congrArg some (by kernel_rfl))
 f266:=Tryz.func86.trans (congrArg some (by kernel_rfl))
 f271:=Tryz.func90.trans (congrArg some (by kernel_rfl))
 t0:=Tryz.underlying0
 a0:=Tryz.isAgg0
 z0:=Tryz.sizeOf0
 v0:=Tryz.zeroValue0
 t3:=Tryz.underlying3
 a3:=Tryz.isAgg3
 z3:=Tryz.sizeOf3
 v3:=Tryz.zeroValue3
 t4:=Tryz.underlying4
 a4:=Tryz.isAgg4
 z4:=Tryz.sizeOf4
 v4:=Tryz.zeroValue4
 t5:=Tryz.underlying5
 a5:=Tryz.isAgg5
 z5:=Tryz.sizeOf5
 v5:=Tryz.zeroValue5
 t9:=Tryz.underlying9
 a9:=Tryz.isAgg9
 z9:=Tryz.sizeOf9
 v9:=Tryz.zeroValue9
 t21:=Tryz.underlying21
 a21:=Tryz.isAgg21
 z21:=Tryz.sizeOf21
 v21:=Tryz.zeroValue21
 t46:=Tryz.underlying108
 a46:=Tryz.isAgg108
 z46:=Tryz.sizeOf108
 v46:=Tryz.zeroValue108
 t105:=Tryz.underlying117
 a105:=Tryz.isAgg117
 z105:=Tryz.sizeOf117
 v105:=Tryz.zeroValue117
 t116:=Tryz.underlying94
 a116:=Tryz.isAgg94
 z116:=Tryz.sizeOf94
 t117:=Tryz.underlying95
 a117:=Tryz.isAgg95
 z117:=Tryz.sizeOf95
 v117:=Tryz.zeroValue95
 t119:=Tryz.underlying144
 a119:=Tryz.isAgg144
 z119:=Tryz.sizeOf144
 t124:=Tryz.underlying98
 a124:=Tryz.isAgg98
 z124:=Tryz.sizeOf98
 v124:=Tryz.zeroValue98
 t138:=Tryz.underlying146
 a138:=Tryz.isAgg146
 z138:=Tryz.sizeOf146
 v138:=Tryz.zeroValue146
 t139:=Tryz.underlying147
 a139:=Tryz.isAgg147
 z139:=Tryz.sizeOf147
 v139:=Tryz.zeroValue147
 g3:=by kernel_rfl
 g4:=by kernel_rfl }
def Tryz.lays161_ren:Go.Shelf.Ren:=⟨fun|161=>100|231=>54|227=>56|233=>57|235=>59|228=>87|197=>88|151=>89|260=>115|152=>116|137=>34|119=>132|224=>133|225=>134|217=>53|266=>86|n=>n,fun|9=>9|4=>4|3=>3|5=>5|117=>95|116=>94|0=>0|124=>98|105=>117|21=>21|119=>144|46=>108|139=>147|138=>146|n=>n,fun|3=>1|4=>2|n=>n⟩
theorem Tryz.lays161:Go.Proofs.Lays.n161 Tryz.prog Tryz.lays161_ren:={
 mixed:=by kernel_rfl
 f119:=Tryz.func132.trans (congrArg some (by kernel_rfl))
 f137:=Tryz.func34.trans (congrArg some (by kernel_rfl))
 f151:=Tryz.func89.trans (congrArg some (by kernel_rfl))
 f152:=Tryz.func116.trans (congrArg some (by kernel_rfl))
 f161:=Tryz.func100.trans (congrArg some (by kernel_rfl))
 f197:=Tryz.func88.trans (congrArg some (by kernel_rfl))
 f217:=Tryz.func53.trans (congrArg some (by kernel_rfl))
 f224:=Tryz.func133.trans (congrArg some (by kernel_rfl))
 f225:=Tryz.func134.trans (congrArg some (by kernel_rfl))
 f227:=Tryz.func56.trans (congrArg some (by kernel_rfl))
 f228:=Tryz.func87.trans (congrArg some (by kernel_rfl))
 f231:=Tryz.func54.trans (congrArg some (by kernel_rfl))
 f233:=Tryz.func57.trans (congrArg some (by kernel_rfl))
 f235:=Tryz.func59.trans (congrArg some (by kernel_rfl))
 f260:=Tryz.func115.trans (congrArg some (by kernel_rfl))
 f266:=Tryz.func86.trans (congrArg some (by kernel_rfl))
 t0:=Tryz.underlying0
 a0:=Tryz.isAgg0
 z0:=Tryz.sizeOf0
 v0:=Tryz.zeroValue0
 t3:=Tryz.underlying3
 a3:=Tryz.isAgg3
 z3:=Tryz.sizeOf3
 v3:=Tryz.zeroValue3
 t4:=Tryz.underlying4
 a4:=Tryz.isAgg4
 z4:=Tryz.sizeOf4
 v4:=Tryz.zeroValue4
 t5:=Tryz.underlying5
 a5:=Tryz.isAgg5
 z5:=Tryz.sizeOf5
 v5:=Tryz.zeroValue5
 t9:=Tryz.underlying9
 a9:=Tryz.isAgg9
 z9:=Tryz.sizeOf9
 v9:=Tryz.zeroValue9
 t21:=Tryz.underlying21
 a21:=Tryz.isAgg21
 z21:=Tryz.sizeOf21
 v21:=Tryz.zeroValue21
 t46:=Tryz.underlying108
 a46:=Tryz.isAgg108
 z46:=Tryz.sizeOf108
 v46:=Tryz.zeroValue108
 t105:=Tryz.underlying117
 a105:=Tryz.isAgg117
 z105:=Tryz.sizeOf117
 v105:=Tryz.zeroValue117
 t116:=Tryz.underlying94
 a116:=Tryz.isAgg94
 z116:=Tryz.sizeOf94
 t117:=Tryz.underlying95
 a117:=Tryz.isAgg95
 z117:=Tryz.sizeOf95
 v117:=Tryz.zeroValue95
 t119:=Tryz.underlying144
 a119:=Tryz.isAgg144
 z119:=Tryz.sizeOf144
 t124:=Tryz.underlying98
 a124:=Tryz.isAgg98
 z124:=Tryz.sizeOf98
 v124:=Tryz.zeroValue98
 t138:=Tryz.underlying146
 a138:=Tryz.isAgg146
 z138:=Tryz.sizeOf146
 v138:=Tryz.zeroValue146
 t139:=Tryz.underlying147
 a139:=Tryz.isAgg147
 z139:=Tryz.sizeOf147
 v139:=Tryz.zeroValue147
 g3:=by kernel_rfl
 g4:=by kernel_rfl }
def Tryz.lays172_ren:Go.Shelf.Ren:=⟨fun|172=>101|244=>126|245=>127|247=>142|279=>143|280=>144|281=>145|282=>146|287=>154|316=>155|171=>157|205=>156|321=>161|322=>162|243=>163|246=>164|283=>165|284=>166|285=>167|286=>168|129=>170|317=>169|318=>171|319=>172|320=>173|337=>174|338=>175|n=>n,fun|9=>9|3=>3|75=>126|76=>127|4=>4|5=>5|167=>153|37=>107|0=>0|85=>154|2=>2|168=>156|53=>89|175=>166|46=>108|210=>169|127=>138|145=>175|143=>173|21=>21|171=>177|173=>180|212=>183|51=>84|20=>20|213=>184|232=>187|233=>188|80=>129|n=>n,fun|15=>3|16=>4|17=>6|18=>7|19=>8|n=>n⟩
theorem Tryz.lays172:Go.Proofs.Lays.n172 Tryz.prog Tryz.lays172_ren:={
 mixed:=by kernel_rfl
 f129:=Tryz.func170.trans (congrArg some (by kernel_rfl))
 f171:=Tryz.func157.trans (congrArg some (by kernel_rfl))
 f172:=Tryz.func101.trans (congrArg some (by kernel_rfl))
 f205:=Tryz.func156.trans (congrArg some (by kernel_rfl))
 f243:=Tryz.func163.trans (congrArg some (by kernel_rfl))
 f244:=Tryz.func126.trans (congrArg some (by kernel_rfl))
 f245:=Tryz.func127.trans (congrArg some (by kernel_rfl))
 f246:=Tryz.func164.trans (congrArg some (by kernel_rfl))
 f247:=Tryz.func142.trans (congrArg some (by kernel_rfl))
 f279:=Tryz.func143.trans (congrArg some (by kernel_rfl))
 f280:=Tryz.func144.trans (congrArg some (by kernel_rfl))
 f281:=Tryz.func145.trans (congrArg some (by kernel_rfl))
 f282:=Tryz.func146.trans (congrArg some (by kernel_rfl))
 f283:=Tryz.func165.trans (congrArg some (by kernel_rfl))
 f284:=Tryz.func166.trans (congrArg some (by kernel_rfl))
 f285:=Tryz.func167.trans (congrArg some (by kernel_rfl))
 f286:=Tryz.func168.trans (congrArg some (by kernel_rfl))
 f287:=Tryz.func154.trans (congrArg some (by kernel_rfl))
 f316:=Tryz.func155.trans (congrArg some (by kernel_rfl))
 f317:=Tryz.func169.trans (congrArg some (by kernel_rfl))
 f318:=Tryz.func171.trans (congrArg some (by kernel_rfl))
 f319:=Tryz.func172.trans (congrArg some (by kernel_rfl))
 f320:=Tryz.func173.trans (congrArg some (by kernel_rfl))
 f321:=Tryz.func161.trans (congrArg some (by kernel_rfl))
 f322:=Tryz.func162.trans (congrArg some (by kernel_rfl))
 f337:=Tryz.func174.trans (congrArg some (by kernel_rfl))
 f338:=Tryz.func175.trans (congrArg some (by kernel_rfl))
 t0:=Tryz.underlying0
 a0:=Tryz.isAgg0
 z0:=Tryz.sizeOf0
 v0:=Tryz.zeroValue0
 t2:=Tryz.underlying2
 a2:=Tryz.isAgg2
 z2:=Tryz.sizeOf2
 v2:=Tryz.zeroValue2
 t3:=Tryz.underlying3
 a3:=Tryz.isAgg3
 z3:=Tryz.sizeOf3
 v3:=Tryz.zeroValue3
 t4:=Tryz.underlying4
 a4:=Tryz.isAgg4
 z4:=Tryz.sizeOf4
 v4:=Tryz.zeroValue4
 t5:=Tryz.underlying5
 a5:=Tryz.isAgg5
 z5:=Tryz.sizeOf5
 v5:=Tryz.zeroValue5
 t9:=Tryz.underlying9
 a9:=Tryz.isAgg9
 z9:=Tryz.sizeOf9
 v9:=Tryz.zeroValue9
 t20:=Tryz.underlying20
 a20:=Tryz.isAgg20
 z20:=Tryz.sizeOf20
 v20:=Tryz.zeroValue20
 t21:=Tryz.underlying21
 a21:=Tryz.isAgg21
 z21:=Tryz.sizeOf21
 v21:=Tryz.zeroValue21
 t37:=Tryz.underlying107
 a37:=Tryz.isAgg107
 z37:=Tryz.sizeOf107
 v37:=Tryz.zeroValue107
 t46:=Tryz.underlying108
 a46:=Tryz.isAgg108
 z46:=Tryz.sizeOf108
 v46:=Tryz.zeroValue108
 t51:=Tryz.underlying84
 a51:=Tryz.isAgg84
 z51:=Tryz.sizeOf84
 v51:=Tryz.zeroValue84
 t53:=Tryz.underlying89
 a53:=Tryz.isAgg89
 z53:=Tryz.sizeOf89
 v53:=Tryz.zeroValue89
 t75:=Tryz.underlying126
 a75:=Tryz.isAgg126
 z75:=Tryz.sizeOf126
 v75:=Tryz.zeroValue126
 t76:=Tryz.underlying127
 a76:=Tryz.isAgg127
 z76:=Tryz.sizeOf127
 v76:=Tryz.zeroValue127
 t85:=Tryz.underlying154
 a85:=Tryz.isAgg154
 z85:=Tryz.sizeOf154
 v85:=Tryz.zeroValue154
 t127:=Tryz.underlying138
 a127:=Tryz.isAgg138
 z127:=Tryz.sizeOf138
 v127:=Tryz.zeroValue138
 t143:=Tryz.underlying173
 a143:=Tryz.isAgg173
 z143:=Tryz.sizeOf173
 v143:=Tryz.zeroValue173
 t145:=Tryz.underlying175
 a145:=Tryz.isAgg175
 z145:=Tryz.sizeOf175
 v145:=Tryz.zeroValue175
 t167:=Tryz.underlying153
 a167:=Tryz.isAgg153
 z167:=Tryz.sizeOf153
 v167:=Tryz.zeroValue153
 t168:=Tryz.underlying156
 a168:=Tryz.isAgg156
 z168:=Tryz.sizeOf156
 v168:=Tryz.zeroValue156
 t171:=Tryz.underlying177
 a171:=Tryz.isAgg177
 z171:=Tryz.sizeOf177
 v171:=Tryz.zeroValue177
 t173:=Tryz.underlying180
 a173:=Tryz.isAgg180
 z173:=Tryz.sizeOf180
 v173:=Tryz.zeroValue180
 t175:=Tryz.underlying166
 a175:=Tryz.isAgg166
 z175:=Tryz.sizeOf166
 v175:=Tryz.zeroValue166
 t210:=Tryz.underlying169
 a210:=Tryz.isAgg169
 z210:=Tryz.sizeOf169
 v210:=Tryz.zeroValue169
 t212:=Tryz.underlying183
 a212:=Tryz.isAgg183
 z212:=Tryz.sizeOf183
 v212:=Tryz.zeroValue183
 t213:=Tryz.underlying184
 a213:=Tryz.isAgg184
 z213:=Tryz.sizeOf184
 t232:=Tryz.underlying187
 a232:=Tryz.isAgg187
 z232:=Tryz.sizeOf187
 v232:=Tryz.zeroValue187
 t233:=Tryz.underlying188
 a233:=Tryz.isAgg188
 z233:=Tryz.sizeOf188
 v233:=Tryz.zeroValue188
 g15:=by kernel_rfl
 g16:=by kernel_rfl
 g17:=by kernel_rfl
 g18:=by kernel_rfl
 g19:=by kernel_rfl }
end Go.Proofs
namespace Go.Proofs.YtjphnjffglapgaaGreatDoor
open Go.Ev Go.RowKit
noncomputable def C0:Cx:={ P:=Tryz.prog,X:=fun _ _=>none,mu:=fun _=>false,good:=fun _=>false }
theorem C0_P:C0.P=Tryz.prog:=rfl
theorem clone_ok0 {G:List (Nat×Value)}:CallOk Tryz.prog G (cloneX 128):=by
 refine cloneX_ok (f:=128) (fn:=Tryz.f128) (e:=(84,1,4)) (by kernel_rfl) (by kernel_rfl) rfl (Nat.lt_of_lt_of_le (Nat.lt_succ_self 4) (Nat.le_of_ble_eq_true (by kernel_rfl))) (by kernel_rfl) fun n cs => ?_
 refine⟨20,_,rfl,rfl,⟨20,_,rfl,rfl⟩,fun h1 h2 h3 => ?_⟩
 have hC : ∀m,CallAll Tryz.prog G (callN C0.P C0.X C0.mu C0.good m):=fun m=>callN_all (tabOk_of (fun g args r exps h=>by cases h) (fun _ _ _ _=>rfl)) (fun f fn h=>by cases h) _ m
 suffices h : ∀ {c:Code} {st:St},WP C0 c st (fun e s=>e = .ret/\retOf Tryz.prog s Tryz.f128.results.toList=some (.sv (.sl n cs))) -> ∃call mu k st',CallAll Tryz.prog G call/\exec Tryz.prog call mu k c st=some (.ret,st')/\retOf Tryz.prog st' Tryz.f128.results.toList=some (.sv (.sl n cs)) by
  refine h ?_
  have hlen:(List.length cs:Nat)=n*1:=by omega
  have h2':cs.all SV.one=true:=h2
  have h5:(5<N0)=True:=by simp[N0]
  have hr:Tryz.f128.results.toList=[.tmp 2]:=by kernel_rfl
  rcases Nat.eq_zero_or_pos n with rfl|hn
  ·have:cs=[]:=List.eq_nil_of_length_eq_zero h1
   subst this
   simp only[go_sem,C0_P,h1,h2,h2',h3,h5,hr,elemsC,Nat.zero_le,Nat.mul_one,Nat.zero_mul,Nat.zero_add,retOf,resTV,outSV]
  ·have hn0 : ¬n=0:=by omega
   simp only[go_sem,C0_P,h1,h2,h2',h3,h5,hn0,hr,elemsC,Nat.zero_le,Nat.mul_one,Nat.zero_mul,Nat.zero_add,retOf,resTV,outSV]
   rw[List.take_of_length_le (by omega)]
 rintro c st ⟨m,e,s,he,rfl,hr⟩
 exact⟨_,_,m,s,hC m,he,hr⟩
theorem xS_ok {G:List (Nat×Value)} (hG:GMet G):CallOk Tryz.prog G xS:=by
 intro g args r exps h
 unfold xS at h
 split at h
 ·rename_i hg
  rw[show g=86 from Nat.eq_of_beq_eq_true hg]
  refine fun w F B vals _=>index_at (fn:=Tryz.f86) (by kernel_rfl) (by kernel_rfl) (by kernel_rfl) (by kernel_rfl) (by kernel_rfl) h w F B vals
 split at h
 ·rename_i hg
  rw[show g=109 from Nat.eq_of_beq_eq_true hg]
  refine fun w F B vals _=>cmp_at (fn:=Tryz.f109) (by kernel_rfl) (by kernel_rfl) (by kernel_rfl) (by kernel_rfl) (by kernel_rfl) h w F B vals
 split at h
 ·rename_i hg
  rw[show g=136 from Nat.eq_of_beq_eq_true hg]
  refine fun w F B vals _=>count_at (fn:=Tryz.f136) (by kernel_rfl) (by kernel_rfl) (by kernel_rfl) (by kernel_rfl) (by kernel_rfl) h w F B vals
 split at h
 ·rename_i hg
  rw[show g=35 from Nat.eq_of_beq_eq_true hg]
  refine fun w F B vals _=>trim_at (enters_of (fn:=Tryz.f35) (c:=(Tryz.f35).body.get!) (by kernel_rfl) (by kernel_rfl) (by kernel_rfl)) (fun s c w h1 h2 h3=>Any.strings_Trim_laid Tryz.lays160 (by kernel_rfl) s c w h1 h2 h3) h w F B vals
 split at h
 ·rename_i hg
  rw[show g=100 from Nat.eq_of_beq_eq_true hg]
  refine fun w F B vals _=>trimLeft_at (enters_of (fn:=Tryz.f100) (c:=(Tryz.f100).body.get!) (by kernel_rfl) (by kernel_rfl) (by kernel_rfl)) (fun s c w h2 h3=>Any.strings_TrimLeft_laid Tryz.lays161 (by kernel_rfl) s c w h2 h3) h w F B vals
 split at h
 ·rename_i hg
  rw[show g=63 from Nat.eq_of_beq_eq_true hg]
  refine fun w F B vals _=>join_at (enters_of (fn:=Tryz.f63) (c:=(Tryz.f63).body.get!) (by kernel_rfl) (by kernel_rfl) (by kernel_rfl)) (fun a c sep w=>Any.strings_Join_none Tryz.lays156 Tryz.Builder_Extra_156 a c sep w) (fun bk o c xs sep w h1 h2 h3 h4 h5=>Any.strings_Join Tryz.lays156 Tryz.Builder_Extra_156 bk o c xs sep w h1 h2 h3 h4 h5) h w F B vals
 split at h
 ·rename_i hg
  rw[show g=101 from Nat.eq_of_beq_eq_true hg]
  refine fun w F B vals _=>atoi_at (enters_of (fn:=Tryz.f101) (c:=(Tryz.f101).body.get!) (by kernel_rfl) (by kernel_rfl) (by kernel_rfl)) (fun s v w h1 h2=>(Any.strconv_Atoi Tryz.lays172 s v h1 h2 w).mono (by rintro e w' ⟨h3,t,rfl⟩;exact⟨h3,⟨rfl,rfl,rfl,by rw[Lib.bytesWorld_size];omega,fun k hk=>Lib.bytesWorld_at_old w _ t k hk⟩⟩)) h w F B vals
 exact clone_ok0 g args r exps h
end Go.Proofs.YtjphnjffglapgaaGreatDoor
namespace Go.Proofs.YtjphnjffglapgaaGreatDoor
open Go.Ev
theorem nat_Is (xs:List Nat) (hl:xs.length<=1099511627776):Go.Ev.Fn CX 140 [natV xs] (.bool (isT xs)):=by
 refine fni Tryz.f140 ?_;unfold Tryz.f140;simp only[Option.get!_some]
 by_cases h0:xs.length=0
 ·have e:isT xs=true:=by simp[isT,h0]
  rw[e]
  repeat (first|simp only[go_sem]|simp (disch:=first|exact oa|fail) only[AX]|refine wki ?_|refine wqn ?_|refine vpx [] ?_)
 ·have e:isT xs=(xs.getD (xs.length-1) 0 != 0):=by simp[isT,h0]
  rw[e]
  repeat (first|simp only[go_sem]|simp (disch:=first|exact oa|fail) only[AX]|refine wki ?_|refine wqn ?_|refine vpx [] ?_)
  rw[bne_nat]
theorem lim_dropLast {xs:List Nat} (h:isT xs=false):xs.length≠0/\lim (wth (xs.take (xs.length-1)))=lim (wth xs):=by
 unfold isT at h
 simp only[Bool.or_eq_false_iff,beq_eq_false_iff_ne,bne_eq_false_iff_eq]at h
 refine⟨h.1,?_⟩
 rcases xs.eq_nil_or_concat with rfl|⟨ys,z,rfl⟩
 ·rfl
 ·rw[List.concat_eq_append]at h ⊢
  have e:z=0:=by simpa using h.2
  subst e
  simp[lim_snoc0]
theorem nat_trim (xs:List Nat) (hx:okL xs) (hl:xs.length<=1099511627776):Go.Ev.Fn CX 123 [natV xs] (natV (lim (wth xs))):=by
 refine fni Tryz.f123 ?_;unfold Tryz.f123;simp only[Option.get!_some]
 simp only[go_sem]
 refine vp_loop_inv (fun s => ∃ys,s.tmp 0 = .sv (natV ys)/\okL ys/\ys.length<=xs.length/\lim (wth ys)=lim (wth xs)) (fun s=>(lenTV (s.tmp 0)).getD 0) ⟨xs,rfl,hx,Nat.le_refl _,rfl⟩ ?_
 rintro s ⟨ys,h0,hy,hle,he⟩
 repeat (first|simp only[go_sem,h0]|simp (disch:=first|exact oa|fail) only[AX,h0]|refine wki ?_|refine wqn ?_|refine vpx [] ?_)
 refine vf_of (nat_Is ys (by omega)) ?_;simp only[go_sem,h0]
 by_cases hT:isT ys=true
 ·repeat (first|simp only[go_sem,h0,hT,Bool.not_true]|simp (disch:=first|exact oa|fail) only[AX,h0,hT,Bool.not_true]|refine wki ?_|refine wqn ?_|refine vpx [] ?_)
  rw[<- he,<- lim_unique hy (isT_iff.1 hT)]
 ·have hT:isT ys=false:=by simpa using hT
  obtain⟨h1,h2⟩:=lim_dropLast hT
  repeat (first|simp only[go_sem,h0,hT,Bool.not_false]|simp (disch:=first|exact oa|fail) only[AX,h0,hT,Bool.not_false]|refine wki ?_|refine wqn ?_|refine vpx [] ?_)
  refine⟨⟨ys.take (ys.length-1),?_,okL_take hy _,?_,h2.trans he⟩,?_⟩
  ·rw[natV_cut (by omega)]
  ·rw[List.length_take];omega
  ·simp only[lenTV,Option.getD_some];omega
theorem nat_Trim (xs:List Nat) (hx:okL xs) (hl:xs.length<=274877906944):Go.Ev.Fn CX 111 [natV xs] (natV (lim (wth xs))):=by
 have hc:Go.Ev.Fn CX 128 [natV (lim (wth xs))] (natV (lim (wth xs))):=by
  refine⟨1,[none],?_⟩
  have h1:=lim_length_le hx
  have h2:=natV_one (lim (wth xs))
  have h3:cloneX 128 128 [.sv (natV (lim (wth xs)))]=some (.sv (natV (lim (wth xs))),[none]):=by
   simp only[cloneX,if_true]
   rw[if_pos ⟨natV_len _,h2,by omega⟩]
  have h4:CX.X 128 [.sv (natV (lim (wth xs)))]=some (.sv (natV (lim (wth xs))),[none]):=h3
  unfold callN
  rw[stq_sv,List.map_cons,List.map_nil,h4]
 refine fni Tryz.f111 ?_;unfold Tryz.f111;simp only[Option.get!_some]
 simp only[go_sem]
 refine vf_of (nat_trim xs hx (by omega)) ?_;simp only[go_sem]
 refine vf_of (hc) ?_;simp only[go_sem]
theorem nat_Of (n:Nat) (hn:n<18446744073709551616):Go.Ev.Fn CX 96 [.int .u64 n] (natV (lim n)):=by
 refine fni Tryz.f96 ?_;unfold Tryz.f96;simp only[Option.get!_some]
 repeat (first|simp only[go_sem]|simp (disch:=first|exact oa|fail) only[AX]|refine wki ?_|refine wqn ?_|refine vpx [] ?_)
 have e:wth [n%4294967296,n/4294967296]=n:=by simp only[wth];omega
 refine vf_of (nat_trim [n%4294967296,n/4294967296] (by simp[okL];omega) (by simp)) ?_;repeat (first|simp only[go_sem]|simp (disch:=first|exact oa|fail) only[AX]|refine wki ?_|refine wqn ?_|refine vpx [] ?_)
 rw[e]
end Go.Proofs.YtjphnjffglapgaaGreatDoor
namespace Go.Proofs.YtjphnjffglapgaaGreatDoor
open Go.Ev
def cmpN (a b:Nat):Int:=if a<b then -1 else if a=b then 0 else 1
theorem wth_lt_of {xs ys:List Nat} (hx:okL xs) (hy:okL ys) (hl:xs.length=ys.length) {i:Nat} (hi:i<xs.length) (hd:xs.drop (i+1)=ys.drop (i+1)) (h:xs.getD i 0<ys.getD i 0):wth xs<wth ys:=by
 have h1 : ∀ (zs:List Nat),i<zs.length->wth zs=wth (zs.take i)+4294967296^i*(zs.getD i 0+4294967296*wth (zs.drop (i+1))):=by
  intro zs hz
  conv=>lhs;rw[<- List.take_append_drop i zs]
  rw[wth_append,List.length_take,Nat.min_eq_left (by omega),List.drop_eq_getElem_cons hz,wth_cons,List.getD_eq_getElem?_getD,List.getElem?_eq_getElem hz]
  rfl
 rw[h1 xs hi,h1 ys (by omega),hd]
 have h2:=wth_lt (okL_take hx i)
 rw[List.length_take,Nat.min_eq_left (by omega)]at h2
 have h3:4294967296^i*(xs.getD i 0+4294967296*wth (ys.drop (i+1))+1)<=4294967296^i*(ys.getD i 0+4294967296*wth (ys.drop (i+1))):=Nat.mul_le_mul_left _ (by omega)
 rw[Nat.mul_add _ _ 1,Nat.mul_one]at h3
 omega
theorem lim_length_lt {a b:Nat} (h:(lim a).length<(lim b).length):a<b:=by
 rcases Nat.lt_or_ge a b with h1|h1
 ·exact h1
 ·have:=trimL_length (okL_lim b) (okL_lim a) (trimL_lim b) (by rw[wth_lim,wth_lim];exact h1)
  omega
theorem nat_Cmp (xs ys:List Nat) (hx:okL xs) (hy:okL ys) (hl:xs.length<=1099511627776) (hm:ys.length<=1099511627776):Go.Ev.Fn CX 129 [natV xs,natV ys] (.int .i64 (cmpN (wth xs) (wth ys))):=by
 refine fni Tryz.f129 ?_;unfold Tryz.f129;simp only[Option.get!_some]
 have lx:=lim_length_le hx
 have ly:=lim_length_le hy
 repeat (first|simp only[go_sem]|simp (disch:=first|exact oa|fail) only[AX]|refine wki ?_|refine wqn ?_|refine vpx [] ?_)
 refine vf_of (nat_trim xs hx (by omega)) ?_;repeat (first|simp only[go_sem]|simp (disch:=first|exact oa|fail) only[AX]|refine wki ?_|refine wqn ?_|refine vpx [] ?_)
 refine vf_of (nat_trim ys hy (by omega)) ?_;repeat (first|simp only[go_sem]|simp (disch:=first|exact oa|fail) only[AX]|refine wki ?_|refine wqn ?_|refine vpx [] ?_)
 by_cases h1:(lim (wth xs)).length=(lim (wth ys)).length
 ·repeat (first|simp only[go_sem]|simp (disch:=first|exact oa|fail) only[AX]|refine wki ?_|refine wqn ?_)
  refine vp_loop_inv (fun s=>s.tmp 0 = .sv (natV (lim (wth xs)))/\s.tmp 1 = .sv (natV (lim (wth ys))) /\ ∃i:Nat,s.tmp 5 = .sv (.int .i64 ((i:Int)-1))/\i<=(lim (wth xs)).length/\(lim (wth xs)).drop i=(lim (wth ys)).drop i)
   (fun s=>match s.tmp 5 with | .sv (.int _ i)=>(i+1).toNat|_=>0) ⟨rfl,rfl,(lim (wth xs)).length,rfl,Nat.le_refl _,?_⟩ ?_
  ·rw[List.drop_length,h1,List.drop_length]
  rintro s ⟨g0,g1,i,g5,hi,hd⟩
  rcases Nat.eq_zero_or_pos i with rfl|hi0
  ·have e:cmpN (wth xs) (wth ys)=0:=by
    have:=congrArg wth hd
    rw[List.drop_zero,List.drop_zero,wth_lim,wth_lim]at this
    rw[this]
    simp[cmpN]
   rw[e]
   repeat (first|simp only[go_sem,g0,g1,g5]|simp (disch:=first|exact oa|fail) only[AX,g0,g1,g5]|refine wki ?_|refine wqn ?_|refine vpx [] ?_)
  ·repeat (first|simp only[go_sem,g0,g1,g5]|simp (disch:=first|exact oa|fail) only[AX,g0,g1,g5]|refine wki ?_|refine wqn ?_|refine vpx [] ?_)
   have hdr : ∀zs:List Nat,i<=zs.length->zs.drop (i-1)=zs.getD (i-1) 0::zs.drop i:=by
    intro zs hz
    rw[List.drop_eq_getElem_cons (show i-1<zs.length by omega),List.getD_eq_getElem?_getD,List.getElem?_eq_getElem (show i-1<zs.length by omega),show i-1+1=i by omega]
    rfl
   rcases Nat.lt_trichotomy ((lim (wth xs)).getD (i-1) 0) ((lim (wth ys)).getD (i-1) 0) with hc|hc|hc
   ·have:=wth_lt_of (okL_lim _) (okL_lim _) h1 (i:=i-1) (by omega) (by rw[show i-1+1=i by omega];exact hd) hc
    rw[wth_lim,wth_lim]at this
    have e:cmpN (wth xs) (wth ys) = -1:=by simp[cmpN,this]
    rw[e]
    repeat (first|simp only[go_sem,g0,g1,g5]|simp (disch:=first|exact oa|fail) only[AX,g0,g1,g5]|refine wki ?_|refine wqn ?_|refine vpx [] ?_)
   ·repeat (first|simp only[go_sem,g0,g1,g5]|simp (disch:=first|exact oa|fail) only[AX,g0,g1,g5]|refine wki ?_|refine wqn ?_|refine vpx [] ?_)
    refine⟨⟨i-1,?_,by omega,?_⟩,by omega⟩
    ·simp only[Int.natCast_sub hi0]
    ·rw[hdr _ hi,hdr _ (by omega),hc,hd]
   ·have:=wth_lt_of (okL_lim _) (okL_lim _) h1.symm (i:=i-1) (by omega) (by rw[show i-1+1=i by omega];exact hd.symm) hc
    rw[wth_lim,wth_lim]at this
    have e:cmpN (wth xs) (wth ys)=1:=by unfold cmpN;rw[if_neg (by omega),if_neg (by omega)]
    rw[e]
    repeat (first|simp only[go_sem,g0,g1,g5]|simp (disch:=first|exact oa|fail) only[AX,g0,g1,g5]|refine wki ?_|refine wqn ?_|refine vpx [] ?_)
 ·by_cases h2:(lim (wth xs)).length<(lim (wth ys)).length
  ·have:=lim_length_lt h2
   have e:cmpN (wth xs) (wth ys) = -1:=by simp[cmpN,this]
   rw[e]
   repeat (first|simp only[go_sem]|simp (disch:=first|exact oa|fail) only[AX]|refine wki ?_|refine wqn ?_|refine vpx [] ?_)
  ·have:=lim_length_lt (a:=wth ys) (b:=wth xs) (by omega)
   have e:cmpN (wth xs) (wth ys)=1:=by unfold cmpN;rw[if_neg (by omega),if_neg (by omega)]
   rw[e]
   repeat (first|simp only[go_sem]|simp (disch:=first|exact oa|fail) only[AX]|refine wki ?_|refine wqn ?_|refine vpx [] ?_)
end Go.Proofs.YtjphnjffglapgaaGreatDoor
namespace Go.Proofs.YtjphnjffglapgaaGreatDoor
open Go.Ev
theorem nat_Add (xs ys:List Nat) (hx:okL xs) (hy:okL ys) (hl:xs.length<=1073741824) (hm:ys.length<=1073741824):Go.Ev.Fn CX 125 [natV xs,natV ys] (natV (lim (wth xs+wth ys))):=by
 refine fni Tryz.f125 ?_;unfold Tryz.f125;simp only[Option.get!_some]
 have lx:=lim_length_le hx
 have ly:=lim_length_le hy
 repeat (first|simp only[go_sem]|simp (disch:=first|exact oa|fail) only[AX]|refine wki ?_|refine wqn ?_|refine vpx [] ?_)
 refine vf_of (nat_trim xs hx (by omega)) ?_;repeat (first|simp only[go_sem]|simp (disch:=first|exact oa|fail) only[AX]|refine wki ?_|refine wqn ?_|refine vpx [] ?_)
 refine vf_of (nat_trim ys hy (by omega)) ?_;repeat (first|simp only[go_sem]|simp (disch:=first|exact oa|fail) only[AX]|refine wki ?_|refine wqn ?_|refine vpx [] ?_)
 refine vc_cut (Mid:=fun s => ∃a b,s.tmp 0 = .sv (natV a)/\s.tmp 1 = .sv (natV b)/\okL a/\okL b/\b.length<=a.length/\a.length<=1073741824/\wth a+wth b=wth xs+wth ys) ?_ ?_
 ·by_cases h1:(lim (wth xs)).length<(lim (wth ys)).length
  ·repeat (first|simp only[go_sem]|simp (disch:=first|exact oa|fail) only[AX]|refine wki ?_|refine wqn ?_|refine vpx [] ?_)
   exact⟨_,_,rfl,rfl,okL_lim _,okL_lim _,by omega,by omega,by rw[wth_lim,wth_lim];omega⟩
  ·repeat (first|simp only[go_sem]|simp (disch:=first|exact oa|fail) only[AX]|refine wki ?_|refine wqn ?_|refine vpx [] ?_)
   exact⟨_,_,rfl,rfl,okL_lim _,okL_lim _,by omega,by omega,by rw[wth_lim,wth_lim]⟩
 rintro s ⟨a,b,g0,g1,ha,hb,hab,hla,hsum⟩
 repeat (first|simp only[go_sem,g0,g1]|simp (disch:=first|exact oa|fail) only[AX,g0,g1]|refine wki ?_|refine wqn ?_)
 generalize hg:s.gen 23=g
 refine vp_loop_inv (fun s'=>s'.tmp 0 = .sv (natV a)/\s'.tmp 1 = .sv (natV b)/\s'.tmp 5 = .ref 23 g 1 0 (a.length+1)/\s'.tmp 24 = .sv (natV a)/\s'.tmp 25 = .sv (.int .i64 a.length) /\
   ∃c:List Nat,∃i carry:Nat,s'.obj 23 g=some (c.map limb)/\s'.tmp 6 = .sv (.int .u64 carry)/\s'.tmp 26 = .sv (.int .i64 i)/\c.length=a.length+1/\okL c/\i<=a.length/\carry<=1 /\
    wth (c.take i)+4294967296^i*carry=wth (a.take i)+wth (b.take i))
  (fun s=>match s.tmp 26 with | .sv (.int _ i)=>a.length-i.toNat|_=>0) ?_ ?_
 ·refine⟨g0,g1,rfl,rfl,rfl,List.replicate (a.length+1) 0,0,0,?_,rfl,rfl,List.length_replicate ..,okL_replicate _,by omega,by omega,rfl⟩
  simp[St.put,St.new,hg]
 rintro s' ⟨i0,i1,i5,i24,i25,c,i,carry,iO,i6,i26,hc,hok,hi,hcar,hw⟩
 by_cases hend:i=a.length
 ·subst hend
  repeat (first|simp only[go_sem,i0,i1,i5,i24,i25,iO,i6,i26]|simp (disch:=first|exact oa|fail) only[AX,i0,i1,i5,i24,i25,iO,i6,i26]|refine wki ?_|refine wqn ?_|refine vpx [] ?_)
  refine vf_of (fn_natV (nat_trim (c.set a.length carry) (okL_set hok _ _ (by omega)) (by rw[List.length_set];omega)) (by rw[List.length_set];omega)) ?_;repeat (first|simp only[go_sem]|simp (disch:=first|exact oa|fail) only[AX]|refine wki ?_|refine wqn ?_|refine vpx [] ?_)
  have e:wth (c.set a.length carry)=wth xs+wth ys:=by
   rw[<- List.take_of_length_le (l:=c.set a.length carry) (i:=a.length+1) (by rw[List.length_set];omega),wth_set_take (by omega),hw,List.take_of_length_le (Nat.le_refl _),List.take_of_length_le hab,hsum]
  rw[e]
 ·have h1:=getD_lt ha i
  have h2:=getD_lt hb i
  have key : ∀x:Nat,x=carry+a.getD i 0+b.getD i 0->wth ((c.set i (x%4294967296)).take (i+1))+4294967296^(i+1)*(x/4294967296)=wth (a.take (i+1))+wth (b.take (i+1)):=by
   intro x hx
   rw[wth_set_take (by omega),wth_take_succ,wth_take_succ]
   have e1:4294967296^i*(x%4294967296)+4294967296^(i+1)*(x/4294967296)=4294967296^i*x:=by
    rw[Nat.pow_succ,Nat.mul_assoc,<- Nat.mul_add,Nat.mod_add_div]
   have e2:4294967296^i*x=4294967296^i*carry+4294967296^i*a.getD i 0+4294967296^i*b.getD i 0:=by
    rw[hx,Nat.mul_add,Nat.mul_add]
   omega
  by_cases hib:i<b.length
  ·repeat (first|simp only[go_sem,i0,i1,i5,i24,i25,iO,i6,i26]|simp (disch:=first|exact oa|fail) only[AX,i0,i1,i5,i24,i25,iO,i6,i26]|refine wki ?_|refine wqn ?_|refine vpx [] ?_)
   exact⟨⟨c.set i ((carry+a.getD i 0+b.getD i 0)%4294967296),i+1,(carry+a.getD i 0+b.getD i 0)/4294967296,rfl,rfl,rfl,by rw[List.length_set];exact hc,okL_set hok _ _ (by omega),by omega,by omega,key _ rfl⟩,by omega⟩
  ·have e0:b.getD i 0=0:=by rw[List.getD_eq_getElem?_getD,List.getElem?_eq_none (by omega)];rfl
   repeat (first|simp only[go_sem,i0,i1,i5,i24,i25,iO,i6,i26]|simp (disch:=first|exact oa|fail) only[AX,i0,i1,i5,i24,i25,iO,i6,i26]|refine wki ?_|refine wqn ?_|refine vpx [] ?_)
   exact⟨⟨c.set i ((carry+a.getD i 0)%4294967296),i+1,(carry+a.getD i 0)/4294967296,rfl,rfl,rfl,by rw[List.length_set];exact hc,okL_set hok _ _ (by omega),by omega,by omega,key _ (by omega)⟩,by omega⟩
end Go.Proofs.YtjphnjffglapgaaGreatDoor
namespace Go.Proofs.YtjphnjffglapgaaGreatDoor
open Go.Ev
theorem bits_Add32 (x y c:Nat) (hx:x<4294967296) (hy:y<4294967296) (hc:c<4294967296) :
  Go.Ev.Fn CX 160 [limb x,limb y,limb c] (.tup [limb ((x+y+c)%4294967296),limb ((x+y+c)/4294967296)]):=by
 refine fni Tryz.f160 ?_;unfold Tryz.f160;simp only[Option.get!_some]
 repeat (first|simp only[go_sem]|simp (disch:=first|exact oa|fail) only[AX]|refine wki ?_|refine wqn ?_|refine vpx [] ?_)
theorem bits_Sub32 (x y b:Nat) (hx:x<4294967296) (hy:y<4294967296) (hb:b<=1) :
  Go.Ev.Fn CX 159 [limb x,limb y,limb b] (.tup [limb (((x+(4294967296-y))%4294967296+(4294967296-b))%4294967296),limb (if x<y+b then 1 else 0)]):=by
 refine fni Tryz.f159 ?_;unfold Tryz.f159;simp only[Option.get!_some]
 have hd : ∃d,d=((x+(4294967296-y))%4294967296+(4294967296-b))%4294967296:=⟨_,rfl⟩
 obtain⟨d,hd⟩:=hd
 rw[<- hd,<- sub32_bit hx hy hb hd]
 have hd':d<4294967296:=by omega
 have h0:4294967295 ^^^ x<4294967296:=Nat.xor_lt_two_pow (n:=32) (by decide) hx
 have h1:(4294967295 ^^^ x) &&& y<4294967296:=Nat.lt_of_le_of_lt Nat.and_le_right hy
 have h2:x ^^^ y<4294967296:=Nat.xor_lt_two_pow (n:=32) hx hy
 have h3:4294967295 ^^^ (x ^^^ y)<4294967296:=Nat.xor_lt_two_pow (n:=32) (by decide) h2
 have h4:(4294967295 ^^^ (x ^^^ y)) &&& d<4294967296:=Nat.lt_of_le_of_lt Nat.and_le_right hd'
 repeat (first|simp only[go_sem,u32_sub,<- hd]|simp (disch:=first|exact oa|fail) only[AX,u32_sub,<- hd]|refine wki ?_|refine wqn ?_|refine vpx [] ?_)
theorem bits_Div32 (hi lo y:Nat) (h:hi<y) (hy:y<4294967296) (hlo:lo<4294967296) :
  Go.Ev.Fn CX 147 [limb hi,limb lo,limb y] (.tup [limb ((hi*4294967296+lo)/y),limb ((hi*4294967296+lo)%y)]):=by
 refine fni Tryz.f147 ?_;unfold Tryz.f147;simp only[Option.get!_some]
 have hq:(hi*4294967296+lo)/y<4294967296:=by
  rw[Nat.div_lt_iff_lt_mul (by omega)]
  have:(hi+1)*4294967296<=y*4294967296:=Nat.mul_le_mul_right _ h
  omega
 have hr:(hi*4294967296+lo)%y<4294967296:=Nat.lt_trans (Nat.mod_lt _ (by omega)) hy
 have hX : ∃X,hi*4294967296+lo=X:=⟨_,rfl⟩
 obtain⟨X,hX⟩:=hX
 rw[hX]at hq hr ⊢
 generalize hQ:X/y=Q at *
 generalize hR:X%y=R at *
 repeat (first|simp only[go_sem,hX,hQ,hR]|simp (disch:=first|exact oa|fail) only[AX,hX,hQ,hR]|refine wki ?_|refine wqn ?_|refine vpx [] ?_)
end Go.Proofs.YtjphnjffglapgaaGreatDoor
namespace Go.Proofs.YtjphnjffglapgaaGreatDoor
open Go.Ev
end Go.Proofs.YtjphnjffglapgaaGreatDoor
namespace Go.Proofs.YtjphnjffglapgaaGreatDoor
open Go.Ev
theorem getD_set_ne {xs:List Nat} {i j v:Nat} (h:j≠i):(xs.set i v).getD j 0=xs.getD j 0:=by
 rw[List.getD_eq_getElem?_getD,List.getD_eq_getElem?_getD,List.getElem?_set_ne (fun e=>h e.symm)]
theorem limb_mul {v w:Nat} (hv:v<4294967296) (hw:w<4294967296):v*w<=18446744065119617025:=
 Nat.le_trans (Nat.mul_le_mul (show v<=4294967295 by omega) (show w<=4294967295 by omega)) (by decide)
theorem nat_Mul (xs ys:List Nat) (hx:okL xs) (hy:okL ys) (hl:xs.length<=1073741824) (hm:ys.length<=1073741824) :
  Go.Ev.Fn CX 103 [natV xs,natV ys] (natV (lim (wth xs*wth ys))):=by
 refine fni Tryz.f103 ?_;unfold Tryz.f103;simp only[Option.get!_some]
 have lx:=lim_length_le hx
 have ly:=lim_length_le hy
 repeat (first|simp only[go_sem]|simp (disch:=first|exact oa|fail) only[AX]|refine wki ?_|refine wqn ?_|refine vpx [] ?_)
 refine vf_of (nat_trim xs hx (by omega)) ?_;repeat (first|simp only[go_sem]|simp (disch:=first|exact oa|fail) only[AX]|refine wki ?_|refine wqn ?_|refine vpx [] ?_)
 refine vf_of (nat_trim ys hy (by omega)) ?_;repeat (first|simp only[go_sem]|simp (disch:=first|exact oa|fail) only[AX]|refine wki ?_|refine wqn ?_|refine vpx [] ?_)
 have ha:=okL_lim (wth xs)
 have hb:=okL_lim (wth ys)
 have va:=wth_lim (wth xs)
 have vb:=wth_lim (wth ys)
 generalize lim (wth xs)=a at *
 generalize lim (wth ys)=b at *
 refine vp_loop_inv (fun s'=>s'.tmp 0 = .sv (natV a)/\s'.tmp 1 = .sv (natV b)/\s'.tmp 5 = .ref 20 0 1 0 (a.length+b.length)/\s'.tmp 21 = .sv (natV a)/\s'.tmp 22 = .sv (.int .i64 a.length) /\
   ∃c:List Nat,∃i:Nat,s'.obj 20 0=some (c.map limb)/\s'.tmp 23 = .sv (.int .i64 i)/\c.length=a.length+b.length/\okL c/\i<=a.length /\
    wth (c.take (i+b.length))=wth (a.take i)*wth b)
  (fun s=>match s.tmp 23 with | .sv (.int _ i)=>a.length-i.toNat|_=>0) ?_ ?_
 ·refine⟨rfl,rfl,rfl,rfl,rfl,List.replicate (a.length+b.length) 0,0,rfl,rfl,List.length_replicate ..,okL_replicate _,by omega,?_⟩
  rw[List.take_replicate,wth_replicate];simp[wth]
 rintro s' ⟨i0,i1,i5,i21,i22,c0,i,iO,i23,hc0,hok0,hi,hv⟩
 by_cases hend:i=a.length
 ·subst hend
  repeat (first|simp only[go_sem,i0,i1,i5,i21,i22,iO,i23]|simp (disch:=first|exact oa|fail) only[AX,i0,i1,i5,i21,i22,iO,i23]|refine wki ?_|refine wqn ?_|refine vpx [] ?_)
  refine vf_of (fn_natV (nat_trim c0 hok0 (by omega)) hc0) ?_;repeat (first|simp only[go_sem]|simp (disch:=first|exact oa|fail) only[AX]|refine wki ?_|refine wqn ?_|refine vpx [] ?_)
  have e:wth c0=wth xs*wth ys:=by
   rw[List.take_of_length_le (by omega),List.take_of_length_le (Nat.le_refl _),va,vb]at hv
   exact hv
  rw[e]
 ·have h1:=getD_lt ha i
  repeat (first|simp only[go_sem,i0,i1,i5,i21,i22,iO,i23]|simp (disch:=first|exact oa|fail) only[AX,i0,i1,i5,i21,i22,iO,i23]|refine wki ?_|refine wqn ?_|refine vpx [] ?_)
  generalize hvv:a.getD i 0=v at *
  refine vp_loop_inv (fun s'=>s'.tmp 0 = .sv (natV a)/\s'.tmp 1 = .sv (natV b)/\s'.tmp 5 = .ref 20 0 1 0 (a.length+b.length)/\s'.tmp 21 = .sv (natV a)/\s'.tmp 22 = .sv (.int .i64 a.length)/\s'.tmp 23 = .sv (.int .i64 i) /\
    s'.tmp 6 = .sv (.int .i64 i)/\s'.tmp 7 = .sv (.int .u32 v)/\s'.tmp 28 = .sv (natV b)/\s'.tmp 29 = .sv (.int .i64 b.length) /\
    ∃c:List Nat,∃k carry:Nat,s'.obj 20 0=some (c.map limb)/\s'.tmp 30 = .sv (.int .i64 k)/\s'.tmp 8 = .sv (.int .u64 carry)/\c.length=a.length+b.length/\okL c/\k<=b.length/\carry<4294967296 /\
     (∀j,i+k<=j->c.getD j 0=c0.getD j 0)/\wth (c.take (i+k))+4294967296^(i+k)*carry=wth (c0.take (i+k))+4294967296^i*(v*wth (b.take k)))
   (fun s=>match s.tmp 30 with | .sv (.int _ i)=>b.length-i.toNat|_=>0) ?_ ?_
  ·refine⟨i0,i1,i5,i21,i22,i23,rfl,rfl,rfl,rfl,c0,0,0,iO,rfl,rfl,hc0,hok0,by omega,by omega,fun _ _=>rfl,?_⟩
   simp[wth]
  rintro s2 ⟨j0,j1,j5,j21,j22,j23,j6,j7,j28,j29,c,k,carry,jO,j30,j8,hc,hok,hk,hcar,hsame,hw⟩
  by_cases hend2:k=b.length
  ·subst hend2
   repeat (first|simp only[go_sem,j0,j1,j5,j21,j22,j23,j6,j7,j28,j29,jO,j30,j8]|simp (disch:=first|exact oa|fail) only[AX,j0,j1,j5,j21,j22,j23,j6,j7,j28,j29,jO,j30,j8]|refine wki ?_|refine wqn ?_|refine vpx [] ?_)
   refine⟨⟨c.set (i+b.length) carry,i+1,rfl,rfl,by rw[List.length_set];exact hc,okL_set hok _ _ hcar,by omega,?_⟩,by omega⟩
   rw[show i+1+b.length=i+b.length+1 by omega,wth_set_take (by omega),hw,hv,wth_take_succ,hvv,List.take_of_length_le (Nat.le_refl _)]
   rw[Nat.add_mul,Nat.mul_assoc]
  ·have h2:=getD_lt hb k
   have h3:=getD_lt hok (i+k)
   have h4:=limb_mul h1 h2
   have hs:=hsame (i+k) (Nat.le_refl _)
   generalize hww:b.getD k 0=w at *
   generalize hu:c.getD (i+k) 0=u at *
   generalize hp:v*w=p at *
   repeat (first|simp only[go_sem,j0,j1,j5,j21,j22,j23,j6,j7,j28,j29,jO,j30,j8,hww,hu,hp]|simp (disch:=first|exact oa|fail) only[AX,j0,j1,j5,j21,j22,j23,j6,j7,j28,j29,jO,j30,j8,hww,hu,hp]|refine wki ?_|refine wqn ?_|refine vpx [] ?_)
   refine⟨⟨c.set (i+k) ((carry+(p+u))%4294967296),k+1,(carry+(p+u))/4294967296,rfl,rfl,rfl,by rw[List.length_set];exact hc,okL_set hok _ _ (by omega),by omega,by omega,fun j hj=>(getD_set_ne (by omega)).trans (hsame j (by omega)),?_⟩,by omega⟩
   rw[show i+(k+1)=i+k+1 by omega,wth_set_take (by omega),wth_take_succ c0,<- hs,wth_take_succ b,hww]
   generalize hx:carry+(p+u)=x
   have e1:4294967296^(i+k)*(x%4294967296)+4294967296^(i+k+1)*(x/4294967296)=4294967296^(i+k)*x:=by
    rw[Nat.pow_succ,Nat.mul_assoc,<- Nat.mul_add,Nat.mod_add_div]
   have e2:4294967296^(i+k)*x=4294967296^(i+k)*carry+(4294967296^(i+k)*p+4294967296^(i+k)*u):=by
    rw[<- hx,Nat.mul_add,Nat.mul_add]
   have e3:4294967296^i*(v*(wth (b.take k)+4294967296^k*w))=4294967296^i*(v*wth (b.take k))+4294967296^(i+k)*p:=by
    rw[Nat.mul_add,Nat.mul_add,<- hp,Nat.pow_add,Nat.mul_left_comm v,<- Nat.mul_assoc (4294967296^i) (4294967296^k)]
   rw[e3]
   omega
end Go.Proofs.YtjphnjffglapgaaGreatDoor
