/- Part 6 of the proof: the evaluator, contracts of functions and their plain laws (joined by program). No condition. -/
import Derived.Test.YtcfjiolldehegaaGreatDoorPart5
set_option linter.unusedVariables false
set_option linter.unusedSimpArgs false
set_option maxRecDepth 100000
namespace Go.Proofs.YtcfjiolldehegaaGreatDoor
open Go.Ev
noncomputable def xO:Callf:=fun g args=>if Nat.beq g 213 then xOver args else none
noncomputable def CO:Cx:={ P:=Tryz.prog,X:=xO,mu:=muF,good:=good }
theorem CO_P:CO.P=Tryz.prog:=_root_.id rfl
theorem CO_mu (f:Nat):CO.mu f=muF f:=_root_.id rfl
attribute [go_sem] CO_P CO_mu
theorem xO_ok {G:List (Nat×Value)}:TabOk Tryz.prog G xO where
 ok:=fun g args r exps h=>by
  unfold xO at h
  split at h
  ·unfold xOver at h
   split at h
   ·intro w F B vals _ _ _ hrep _
    exact(hrep 0 _ rfl).elim
   ·cases h
  ·cases h
 inn:=fun g k st vs r exps h=>by
  unfold xO at h
  split at h
  ·rename_i hg
   rw[show g=213 from Nat.eq_of_beq_eq_true hg]
   refine fun w0 F I Z N β a w vals _=>over_in (fn:=Tryz.f213) (tS:=46) (tR:=4) (e:=74) (size:=40) (by kernel_rfl) (by kernel_rfl) (by kernel_rfl) (by kernel_rfl) (by kernel_rfl) (by kernel_rfl) h w0 F I Z N β a w vals
  ·cases h
 look:=fun f st vs=>by
  unfold xO
  split
  ·rfl
  ·rfl
 eqv:=fun g b s vs r e h l=>by
  unfold xO at h
  split at h
  ·rename_i hg
   obtain⟨m,hm⟩:=over_eqv h l
   exact⟨m,fun v=>(if_pos hg).trans (hm v)⟩
  ·cases h
section
variable {st:St} {d g d2 g2 n i c m:Nat} {cs l:List SV} {b:ByteArray}
theorem over_call {ops:Array Oper} {lo:List Oper} {dst:Option Nat} {Q:St->Prop} {s:St} {off:Nat} (h1:(s.obj d2 g2).isSome=true) (h2:(s.obj d g).isSome=true) (hne : ¬(d2=d/\g2=g)) (hc:0<c)
  (k:WO CO false ops lo (s.putO dst (.sv (.bool false))) Q):WN CO ops lo dst s Q 213 [.ref d2 g2 2 0 1,.rfc d g 2 off n c]:=by
 refine wn_by (st':=s) (r := .sv (.bool false)) (e:=[]) ?_ k
 show (if Nat.beq 213 213 then xOver [.st false s [.ref d2 g2 2 0 1,.rfc d g 2 off n c]] else none)=_
 rw[if_pos (show Nat.beq 213 213=true from rfl)]
 show (if (s.obj d2 g2).isSome=true/\(s.obj d g).isSome=true /\ ¬(d2=d/\g2=g)/\0<c then _ else _)=_
 rw[if_pos ⟨h1,h2,hne,hc⟩]
theorem lay_new {α:Type} {a z t:List α} {x y:α} {k k2 k3:Nat} (ha:a.length=k) (hz:z.length=t.length+2) (h2:k2=k+2) (h3:k3=k+2+t.length) :
  List.take k2 (List.take k (a++z)++[x,y]++List.drop (k+2) (a++z))++t++List.drop k3 (List.take k (a++z)++[x,y]++List.drop (k+2) (a++z))=a++[x,y]++t:=by
 subst ha h2 h3
 have e1:List.take a.length (a++z)=a:=List.take_left
 have e2:List.drop (a.length+2) (a++z)=z.drop 2:=by rw[<- List.drop_drop,List.drop_left]
 rw[e1,e2]
 have e3:(a++[x,y]).length=a.length+2:=by simp
 have e4:List.take (a.length+2) (a++[x,y]++List.drop 2 z)=a++[x,y]:=by rw[<- e3,List.take_left]
 have e5:List.drop (a.length+2+t.length) (a++[x,y]++List.drop 2 z)=[]:=List.drop_of_length_le (by simp;omega)
 rw[e4,e5,List.append_nil]
theorem lay_here {α:Type} {cs:List α} {x y:α} {k k2:Nat} (hk:k+2<=cs.length) (h2:k2=k+2) :
  List.take k (List.take k2 cs++List.drop k cs)++[x,y]++List.drop (k+2) (List.take k2 cs++List.drop k cs)=List.take k cs++[x,y]++List.drop k cs:=by
 subst h2
 have e0:(List.take (k+2) cs).length=k+2:=by rw[List.length_take];omega
 have e1:List.take k (List.take (k+2) cs++List.drop k cs)=List.take k cs:=by
  rw[List.take_append_of_le_length (by omega),List.take_take,Nat.min_eq_left (by omega)]
 have e2:List.drop (k+2) (List.take (k+2) cs++List.drop k cs)=List.drop k cs:=by
  have:=List.drop_left (l₁:=List.take (k+2) cs) (l₂:=List.drop k cs)
  rwa [e0]at this
 rw[e1,e2]
theorem ins_walk (hd:d<N0) (hne : ¬(d2=d/\g2=g)) (hg:g<st.gen d) (hg2:g2<st.gen d2) (ho:st.obj d g=some cs) (ho2:st.obj d2 g2=some [.str b,.sl m l]) (hl:cs.length=n*2) (h1:oneAll cs=true) (hi:i<=n) (hn:n<=100000) (hc:n<=c) :
  ∃k s t,callN CO.P CO.X CO.mu CO.good k 128 [.st false st [.rfc d g 2 0 n c,.sv (.int .i64 (i:Int)),.ref d2 g2 2 0 1]]=some (.st s t,[]) /\
   InsLeaves st d g (n+1) (cs.take (i*2)++[.str b,.sl m l]++cs.drop (i*2)) s t:=by
 refine call_rz (fn:=Tryz.f128) (body:=(Tryz.f128).body.get!) (by kernel_rfl) (by kernel_rfl) (by kernel_rfl) (Nat.le_of_ble_eq_true (by kernel_rfl)) ?_
 unfold Tryz.f128
 simp only[Option.get!_some]
 have hd':d<1000000:=hd
 have hne' : ¬(d=d2/\g=g2):=fun e=>hne ⟨e.1.symm,e.2.symm⟩
 by_cases hin:i=n
 ·subst hin
  by_cases h0:i=0
  ·subst h0
   have:cs=[]:=List.eq_nil_of_length_eq_zero hl
   subst this
   by_cases hcap:0+1<=c
   ·repeat (first|simp only[go_sem,ho,ho2,N0,Nat.zero_le,true_or]|simp (disch:=first|exact oa|fail) only[AX,ho,ho2,N0,Nat.zero_le,true_or]|refine wki ?_|refine wqn ?_)
    refine leaves_here (vs:=[.rfc d g 2 0 0 c,.sv (.int .i64 ((0:Nat):Int)),.ref d2 g2 2 0 1]) [.str b,.sl m l] rfl (fun u => ?_) (fun d' g' => ?_) (fun d' g' => ?_) (fun d' => ?_) (fun _ _ h=>h)
    ·simp only[up_put,up_set]
    ·simp only[hob_put,hob_set,hob_enter]
    ·simp only[obj_put,obj_set,obj_enter]
     rfl
    ·simp only[gen_put,gen_set,gen_enter]
   ·repeat (first|simp only[go_sem,ho,ho2,N0,Nat.zero_le,true_or]|simp (disch:=first|exact oa|fail) only[AX,ho,ho2,N0,Nat.zero_le,true_or]|refine wki ?_|refine wqn ?_)
    refine leaves_new (vs:=[.rfc d g 2 0 0 c,.sv (.int .i64 ((0:Nat):Int)),.ref d2 g2 2 0 1]) 25 rfl (by decide) (fun u => ?_) (fun d' g' => ?_) (fun d' g' => ?_) (fun d' => ?_)
    ·simp only[up_put,up_new]
    ·simp only[hob_put,hob_new,hob_enter]
    ·simp only[obj_put,obj_new,obj_enter,gen_put,gen_enter]
    ·simp only[gen_put,gen_new,gen_enter]
  ·have ec:cs.take (i*2)=cs:=List.take_of_length_le (by omega)
   have ed:cs.drop (i*2)=[]:=List.drop_of_length_le (by omega)
   by_cases hcap:i+1<=c
   ·repeat (first|simp only[go_sem,ho,ho2,hl,N0]|simp (disch:=first|exact oa|fail) only[AX,ho,ho2,hl,N0]|refine wki ?_|refine wqn ?_)
    refine leaves_here (vs:=[.rfc d g 2 0 i c,.sv (.int .i64 (i:Int)),.ref d2 g2 2 0 1]) _ rfl (fun u => ?_) (fun d' g' => ?_) (fun d' g' => ?_) (fun d' => ?_) (fun _ _ h=>h)
    ·simp only[up_put,up_set]
    ·simp only[hob_put,hob_set,hob_enter]
    ·simp only[obj_put,obj_set,obj_enter]
     rw[show cs.drop (i*2+2)=[] from List.drop_of_length_le (by omega),ed]
    ·simp only[gen_put,gen_set,gen_enter]
   ·repeat (first|simp only[go_sem,ho,ho2,hl,N0]|simp (disch:=first|exact oa|fail) only[AX,ho,ho2,hl,N0]|refine wki ?_|refine wqn ?_)
    refine leaves_new (vs:=[.rfc d g 2 0 i c,.sv (.int .i64 (i:Int)),.ref d2 g2 2 0 1]) 25 rfl (by decide) (fun u => ?_) (fun d' g' => ?_) (fun d' g' => ?_) (fun d' => ?_)
    ·simp only[up_put,up_new]
    ·simp only[hob_put,hob_new,hob_enter]
    ·simp only[obj_put,obj_new,obj_enter,gen_put,gen_enter,ed,List.append_nil]
    ·simp only[gen_put,gen_new,gen_enter]
 ·obtain⟨r,rfl⟩ : ∃r,n=i+r:=⟨n-i,by omega⟩
  have hr:0<r:=by omega
  have hA:i+r+1-(i+1)=r:=by omega
  have hB:i+r+1-i=r+1:=by omega
  have hC:i+(r+1)-i=r+1:=by omega
  have hD:i+r-i=r:=by omega
  have hl2:(cs.drop (i*2)).length=r*2:=by rw[List.length_drop];omega
  have hT:List.take (r*2) (List.take ((r+1)*2) (cs.drop (i*2)))=cs.drop (i*2):=by
   rw[List.take_take,Nat.min_eq_left (by omega),List.take_of_length_le (by omega)]
  have hT2:List.take (r*2) (cs.drop (i*2))=cs.drop (i*2):=List.take_of_length_le (by omega)
  have hall:(cs.drop (i*2)).all SV.one=true:=by
   rw[List.all_eq_true]
   unfold oneAll at h1
   rw[List.all_eq_true]at h1
   exact fun x hx=>h1 x (List.mem_of_mem_drop hx)
  by_cases hcap:i+r+1<=c
  ·have hE:List.drop ((i+1)*2+r*2) cs=[]:=List.drop_of_length_le (by omega)
   have hM:min (r+1) 1=1:=by omega
   repeat (first|simp only[go_sem,ho,ho2,hl,N0]|simp (disch:=first|exact oa|fail) only[AX,ho,ho2,hl,N0]|refine wki ?_|refine wqn ?_)
   refine over_call (by simp only[obj_put,obj_enter,ho2];rfl) (by simp only[obj_put,obj_enter,ho];rfl) hne (by omega) ?_
   repeat (first|simp only[go_sem,ho,ho2,hl,N0,hne,hne',Bool.not_false,hA,hB,hT,hl2,hall,hE,hM]|simp (disch:=first|exact oa|fail) only[AX,ho,ho2,hl,N0,hne,hne',Bool.not_false,hA,hB,hT,hl2,hall,hE,hM]|refine wki ?_|refine wqn ?_|refine vpd 11 [] ?_|refine vpd 15 [] ?_)
   refine leaves_here (vs:=[.rfc d g 2 0 (i+r) c,.sv (.int .i64 (i:Int)),.ref d2 g2 2 0 1]) (List.take (i*2) cs++[SV.str b,SV.sl m l]++List.drop (i*2) cs) rfl (fun u => ?_) (fun d' g' => ?_) (fun d' g' => ?_) (fun d' => ?_) (fun _ _ h=>h)
   ·simp only[up_put,up_set]
   ·simp only[hob_put,hob_set,hob_enter]
   ·simp only[obj_put,obj_set,obj_enter]
    rw[lay_here (by omega) (by omega)]
    split
    ·rfl
    ·rfl
   ·simp only[gen_put,gen_set,gen_enter]
  ·repeat (first|simp only[go_sem,ho,ho2,hl,N0,Nat.zero_le,true_or]|simp (disch:=first|exact oa|fail) only[AX,ho,ho2,hl,N0,Nat.zero_le,true_or]|refine wki ?_|refine wqn ?_)
   rw[vo_appendZ (by decide)]
   repeat (first|simp only[go_sem,ho,ho2,hl,N0,hA,hB,hC]|simp (disch:=first|exact oa|fail) only[AX,ho,ho2,hl,N0,hA,hB,hC]|refine wki ?_|refine wqn ?_)
   generalize hz:(List.replicate (r+1) [SV.str { data:={ toList:=[] } },SV.sl 0 []]).flatten=z
   have hzl:z.length=(r+1)*2:=by rw[<- hz];simp
   have hn1 : ¬(d2=40/\g2=st.gen 40):=fun e=>by obtain⟨rfl,e2⟩:=e;omega
   have hn2 : ¬(d=40/\g=st.gen 40):=fun e=>by obtain⟨rfl,e2⟩:=e;omega
   repeat (first|simp only[go_sem,ho,ho2,hl,N0,hn1,hn2,hA,hB,hC,hD,hzl,hT2,hl2,hall]|simp (disch:=first|exact oa|fail) only[AX,ho,ho2,hl,N0,hn1,hn2,hA,hB,hC,hD,hzl,hT2,hl2,hall]|refine wki ?_|refine wqn ?_|refine vpd 11 [] ?_|refine vpd 15 [] ?_)
   have hfin:i+(r+1)=i+r+1:=by omega
   refine leaves_new (vs:=[.rfc d g 2 0 (i+r) c,.sv (.int .i64 (i:Int)),.ref d2 g2 2 0 1]) 40 rfl (by decide) (fun u => ?_) (fun d' g' => ?_) (fun d' g' => ?_) (fun d' => ?_)
   ·simp only[up_put,up_set,up_new]
   ·simp only[hob_put,hob_set,hob_new,hob_enter]
   ·simp only[obj_put,obj_set,obj_new,obj_enter,gen_put,gen_enter]
    rw[lay_new (by rw[List.length_take];omega) (by omega) (by omega) (by omega)]
    split
    ·rfl
    ·rfl
   ·simp only[gen_put,gen_set,gen_new,gen_enter]
theorem pre_get {α:Type} {A B:List α} (rest:List α) (h:B=A++rest) : ∀ (i:Nat) (x:α),A[i]?=some x->B[i]?=some x:=by
 intro i x hx
 have hlt:i<A.length:=by
  rcases Nat.lt_or_ge i A.length with h|h
  ·exact h
  ·rw[List.getElem?_eq_none h]at hx;cases hx
 rw[h,List.getElem?_append_left hlt,hx]
theorem del_walk (hd:d<N0) (ho:st.obj d g=some cs) (hl:cs.length=n*2) (h1:oneAll cs=true) (hi:i<n) (hn:n<=100000) (hc:n<=c) :
  ∃k s t,callN CO.P CO.X CO.mu CO.good k 104 [.st false st [.rfc d g 2 0 n c,.sv (.int .i64 (i:Int)),.sv (.int .i64 ((i:Int)+1))]]=some (.st s t,[]) /\
   InsLeaves st d g (n-1) (cs.take (i*2)++cs.drop (i*2+2)) s t:=by
 refine call_rz (fn:=Tryz.f104) (body:=(Tryz.f104).body.get!) (by kernel_rfl) (by kernel_rfl) (by kernel_rfl) (Nat.le_of_ble_eq_true (by kernel_rfl)) ?_
 unfold Tryz.f104
 simp only[Option.get!_some]
 have hd':d<1000000:=hd
 obtain⟨r,rfl⟩ : ∃r,n=i+r+1:=⟨n-i-1,by omega⟩
 have hij:((i:Int)+1)=((i+1:Nat):Int):=by omega
 have hA:i+r+1-(i+1)=r:=by omega
 have hn1:i+r+1-1=i+r:=by omega
 have hs1:i+r+1-(i+r)=1:=by omega
 have hs2:i+1-i=1:=by omega
 rw[hij,hn1]
 have hl2:(cs.drop ((i+1)*2)).length=r*2:=by rw[List.length_drop];omega
 have hT2:List.take (r*2) (cs.drop ((i+1)*2))=cs.drop ((i+1)*2):=List.take_of_length_le (by omega)
 have hall:(cs.drop ((i+1)*2)).all SV.one=true:=by
  rw[List.all_eq_true]
  unfold oneAll at h1
  rw[List.all_eq_true]at h1
  exact fun x hx=>h1 x (List.mem_of_mem_drop hx)
 by_cases hr:r=0
 ·subst hr
  repeat (first|simp only[go_sem,ho,hl,N0,Nat.zero_le,true_or,hA,hs1,hs2]|simp (disch:=first|exact oa|fail) only[AX,ho,hl,N0,Nat.zero_le,true_or,hA,hs1,hs2]|refine wki ?_|refine wqn ?_|refine vpd 5 [] ?_)
  generalize (List.replicate 1 [SV.str { data:={ toList:=[] } },SV.sl 0 []]).flatten=z
  refine leaves_here (vs:=[.rfc d g 2 0 (i+1) c,.sv (.int .i64 (i:Int)),.sv (.int .i64 ((i+1:Nat):Int))]) (List.take (i*2) cs++z++List.drop (i*2+z.length) cs) rfl (fun u => ?_) (fun d' g' => ?_) (fun d' g' => ?_) (fun d' => ?_) ?_
  ·simp only[up_put,up_set]
  ·simp only[hob_put,hob_set,hob_enter]
  ·simp only[obj_put,obj_set,obj_enter]
  ·simp only[gen_put,gen_set,gen_enter]
  ·refine pre_get (z++List.drop (i*2+z.length) cs) ?_
   rw[show List.drop (i*2+2) cs=[] from List.drop_of_length_le (by omega),List.append_nil,List.append_assoc]
 ·repeat (first|simp only[go_sem,ho,hl,N0,Nat.zero_le,true_or,hA,hT2,hl2,hall,hs1,hs2]|simp (disch:=first|exact oa|fail) only[AX,ho,hl,N0,Nat.zero_le,true_or,hA,hT2,hl2,hall,hs1,hs2]|refine wki ?_|refine wqn ?_|refine vpd 5 [] ?_)
  generalize (List.replicate 1 [SV.str { data:={ toList:=[] } },SV.sl 0 []]).flatten=z
  refine leaves_here (vs:=[.rfc d g 2 0 (i+r+1) c,.sv (.int .i64 (i:Int)),.sv (.int .i64 ((i+1:Nat):Int))]) (List.take ((i+r)*2) (List.take (i*2) cs++List.drop ((i+1)*2) cs++List.drop (i*2+r*2) cs)++z++List.drop ((i+r)*2+z.length) (List.take (i*2) cs++List.drop ((i+1)*2) cs++List.drop (i*2+r*2) cs)) rfl (fun u => ?_) (fun d' g' => ?_) (fun d' g' => ?_) (fun d' => ?_) ?_
  ·simp only[up_put,up_set]
  ·simp only[hob_put,hob_set,hob_enter]
  ·simp only[obj_put,obj_set,obj_enter]
   split
   ·rfl
   ·rfl
  ·simp only[gen_put,gen_set,gen_enter]
  ·refine pre_get (z++List.drop ((i+r)*2+z.length) (List.take (i*2) cs++List.drop ((i+1)*2) cs++List.drop (i*2+r*2) cs)) ?_
   have e0:(List.take (i*2) cs++List.drop ((i+1)*2) cs).length=(i+r)*2:=by rw[List.length_append,hl2,List.length_take];omega
   rw[<- e0,List.take_left,List.append_assoc,show i*2+2=(i+1)*2 by omega]
theorem ins_in {k:Bool} {st:St} {vs:List TV} {r:Ret} {exps:List (Option (List SV))} (h:xIns [.st k st vs]=some (r,exps))
  (w0:World) (F I:Nat->Prop) (Z:Zy) (N:Nat) (β:Nat->Nat->Nat) (a:Act) (w:World) (vals:Array Value) (hrel:Rel w0 F I Z N β st a w) (hsz:vals.size=vs.length)
  (hv : ∀ (i:Nat) (v:TV),vs[i]?=some v->RepT β w (Mut F β st) (vals.getD i undef) v /\ ∀d g,v.id=some (d,g)->g<st.gen d) :
  Invk Tryz.prog 128 vals w fun e w' => ∃v,e = .returned v/\InRet w0 F I Z N st a w' k v r:=by
 unfold xIns at h
 split at h
 ·rename_i st1 d g n i d2 g2 hargs
  cases hargs
  split at h
  ·rename_i cs b m l ho ho2
   split at h
   ·rename_i hc
    cases h
    obtain⟨hd,hne,hl,h1,hi0,hi,hn⟩:=hc
    have hi2:i=((i.toNat:Nat):Int):=by omega
    have hg:=(hv 0 _ rfl).2 d g rfl
    have hg2:=(hv 2 _ rfl).2 d2 g2 rfl
    refine leaves_in (C:=CO) (G:=Z.gl) rfl xO_ok good_ok (cs0:=cs) hd ho (fun c hc => ?_) hrel hsz hv
    have:=ins_walk hd hne hg hg2 ho ho2 hl h1 hi hn hc
    rw[<- hi2]at this
    exact this
   ·cases h
  ·cases h
 ·cases h
theorem del_in {k:Bool} {st:St} {vs:List TV} {r:Ret} {exps:List (Option (List SV))} (h:xDel [.st k st vs]=some (r,exps))
  (w0:World) (F I:Nat->Prop) (Z:Zy) (N:Nat) (β:Nat->Nat->Nat) (a:Act) (w:World) (vals:Array Value) (hrel:Rel w0 F I Z N β st a w) (hsz:vals.size=vs.length)
  (hv : ∀ (i:Nat) (v:TV),vs[i]?=some v->RepT β w (Mut F β st) (vals.getD i undef) v /\ ∀d g,v.id=some (d,g)->g<st.gen d) :
  Invk Tryz.prog 104 vals w fun e w' => ∃v,e = .returned v/\InRet w0 F I Z N st a w' k v r:=by
 unfold xDel at h
 split at h
 ·rename_i st1 d g n i j hargs
  cases hargs
  split at h
  ·rename_i cs ho
   split at h
   ·rename_i hc
    cases h
    obtain⟨hd,hl,h1,hi0,rfl,hi,hn⟩:=hc
    have hi2:i=((i.toNat:Nat):Int):=by omega
    refine leaves_in (C:=CO) (G:=Z.gl) rfl xO_ok good_ok (cs0:=cs) hd ho (fun c hc => ?_) hrel hsz hv
    have:=del_walk hd ho hl h1 hi hn hc
    rw[<- hi2]at this
    exact this
   ·cases h
  ·cases h
 ·cases h
end
end Go.Proofs.YtcfjiolldehegaaGreatDoor
namespace Go.Proofs.YtcfjiolldehegaaGreatDoor
open Go.Ev
theorem or_low {h k m:Nat} (hh:h<2^k):h |||2^k*m=h+2^k*m:=by
 rw[Nat.or_comm,<- Nat.two_pow_add_eq_or_of_lt hh,Nat.add_comm]
theorem mod_shift {v k:Nat} (hk:k<32):v*2^k%4294967296=2^k*(v%2^(32-k)):=by
 rw[Nat.mul_comm v,show 4294967296=2^k*2^(32-k) by rw[<- Nat.pow_add,show k+(32-k)=32 by omega],Nat.mul_mod_mul_left]
theorem getD_set_self {xs:List Nat} {i v:Nat} (h:i<xs.length):(xs.set i v).getD i 0=v:=by
 simp[List.getD_eq_getElem?_getD,h]
theorem getD_set_ne' {xs:List Nat} {i j v:Nat} (h:j≠i):(xs.set i v).getD j 0=xs.getD j 0:=by
 rw[List.getD_eq_getElem?_getD,List.getD_eq_getElem?_getD,List.getElem?_set_ne (fun e=>h e.symm)]
theorem left_row (xs:List Nat) (k n:Nat) (hx:okL xs) (hl:xs.length<=1073741824) (hk:k<32) (hn:xs.length<=n) (hn':n<=xs.length+1) :
  ∃m,rowN CZ.P CZ.X CZ.mu CZ.good m 288 ([natV xs,.int .u64 k,.int .i64 n].map Arg.sv)=some (.row ((limN n (wth xs*2^k)).map limb) 1 0 n,[none,none,none]):=by
 refine row_intro (fn:=Tryz.f288) (body:=(Tryz.f288).body.get!) (by kernel_rfl) (by kernel_rfl) (by kernel_rfl) (Nat.le_of_ble_eq_true (by kernel_rfl)) ?_
 unfold Tryz.f288
 simp only[Option.get!_some]
 repeat (first|simp only[go_sem]|simp (disch:=first|exact oa|fail) only[AX]|refine wki ?_|refine wqn ?_)
 have hD1:2^k<=2^31:=Nat.pow_le_pow_right (by omega) (by omega)
 refine vp_loop_inv (fun s'=>s'.tmp 1 = .sv (.int .u64 k)/\s'.tmp 2 = .sv (.int .i64 n)/\s'.tmp 7 = .ref 12 0 1 0 n/\s'.tmp 13 = .sv (natV xs)/\s'.tmp 14 = .sv (.int .i64 xs.length) /\
   ∃c:List Nat,∃i h:Nat,s'.obj 12 0=some (c.map limb)/\s'.tmp 15 = .sv (.int .i64 i)/\c.length=n/\okL c/\i<=xs.length/\h<2^k/\wth (xs.take i)*2^k=wth (c.take i)+4294967296^i*h /\
    (i<n->c.getD i 0=h) /\ ∀j,i<j->c.getD j 0=0)
  (fun s=>match s.tmp 15 with | .sv (.int _ i)=>xs.length-i.toNat|_=>0) ?_ ?_
 ·refine⟨rfl,rfl,rfl,rfl,rfl,List.replicate n 0,0,0,rfl,rfl,List.length_replicate ..,okL_replicate _,by omega,Nat.pow_pos (by omega),by simp[wth],fun _ => ?_,fun j _ => ?_⟩ <;>
  ·simp only[List.getD_eq_getElem?_getD,List.getElem?_replicate]
   split<;>rfl
 rintro s' ⟨i1,i2,i7,i13,i14,c,i,h,iO,i15,hc,hok,hi,hh,hv,hci,hz⟩
 by_cases hend:i=xs.length
 ·subst hend
  have e:c=limN n (wth xs*2^k):=by
   refine limN_unique hok hc ?_
   rw[List.take_of_length_le (Nat.le_refl _)]at hv
   rcases Nat.lt_or_ge xs.length n with h1|h1
   ·have e1:wth c=wth (c.take (xs.length+1)):=by rw[List.take_of_length_le (by omega)]
    rw[wth_take_succ,hci h1,<- hv]at e1
    have:=wth_lt hok
    rw[hc]at this
    rw[Nat.mod_eq_of_lt (by omega),e1]
   ·have hn2:n=xs.length:=by omega
    subst hn2
    rw[hv,List.take_of_length_le (by omega),Nat.add_mul_mod_self_left]
    have:=wth_lt hok
    rw[hc]at this
    rw[Nat.mod_eq_of_lt this]
  repeat (first|simp only[go_sem,i1,i2,i7,i13,i14,iO,i15]|simp (disch:=first|exact oa|fail) only[AX,i1,i2,i7,i13,i14,iO,i15]|refine wki ?_|refine wqn ?_|refine vpx [] ?_)
  rw[e]
 ·have h1:=getD_lt hx i
  have hin:i<n:=by omega
  have hci:=hci hin
  generalize hvv:xs.getD i 0=v at *
  have hw1:v*2^k<18446744073709551616:=by
   have:v*2^k<=4294967295*2^31:=Nat.mul_le_mul (by omega) hD1
   omega
  have hwq:v*2^k/4294967296<2^k:=by
   rw[Nat.div_lt_iff_lt_mul (by omega),Nat.mul_comm (2^k)]
   exact Nat.mul_lt_mul_of_pos_right h1 (Nat.pow_pos (by omega))
  have hor:h |||v*2^k%4294967296=h+v*2^k%4294967296:=by
   rw[mod_shift hk];exact or_low hh
  have hsum:h+v*2^k%4294967296<4294967296:=by
   rw[mod_shift hk]
   have e1:v%2^(32-k)+1<=2^(32-k):=Nat.mod_lt _ (Nat.pow_pos (by omega))
   have e2:2^k*(v%2^(32-k)+1)<=2^k*2^(32-k):=Nat.mul_le_mul_left _ e1
   rw[<- Nat.pow_add,show k+(32-k)=32 by omega,Nat.mul_add,Nat.mul_one]at e2
   omega
  have hval:wth (xs.take (i+1))*2^k=(wth (c.take i)+4294967296^i*(h+v*2^k%4294967296))+4294967296^(i+1)*(v*2^k/4294967296):=by
   rw[wth_take_succ,hvv,Nat.add_mul,hv,Nat.mul_add,Nat.pow_succ,Nat.mul_assoc (4294967296^i) 4294967296,Nat.mul_assoc (4294967296^i) v]
   have:=Nat.mod_add_div (v*2^k) 4294967296
   have e3:4294967296^i*(v*2^k)=4294967296^i*(v*2^k%4294967296)+4294967296^i*(4294967296*(v*2^k/4294967296)):=by
    rw[<- Nat.mul_add,this]
   omega
  generalize hD:2^k=D at *
  generalize hW:v*D=w at *
  by_cases hin2:i+1<n
  ·repeat (first|simp only[go_sem,i1,i2,i7,i13,i14,iO,i15,hci,hvv,hD,hW,hor]|simp (disch:=first|exact oa|fail) only[AX,i1,i2,i7,i13,i14,iO,i15,hci,hvv,hD,hW,hor]|refine wki ?_|refine wqn ?_|refine vpx [] ?_)
   refine⟨⟨(c.set i (h+w%4294967296)).set (i+1) (w/4294967296),i+1,w/4294967296,rfl,rfl,by rw[List.length_set,List.length_set];exact hc,okL_set (okL_set hok _ _ hsum) _ _ (by omega),by omega,hwq,?_,fun _=>getD_set_self (by rw[List.length_set];omega),fun j hj => ?_⟩,by omega⟩
   ·rw[List.take_set_of_le (Nat.le_refl _),wth_set_take (by omega),hval]
   ·rw[getD_set_ne' (by omega),getD_set_ne' (by omega)]
    exact hz j (by omega)
  ·repeat (first|simp only[go_sem,i1,i2,i7,i13,i14,iO,i15,hci,hvv,hD,hW,hor]|simp (disch:=first|exact oa|fail) only[AX,i1,i2,i7,i13,i14,iO,i15,hci,hvv,hD,hW,hor]|refine wki ?_|refine wqn ?_|refine vpx [] ?_)
   refine⟨⟨c.set i (h+w%4294967296),i+1,w/4294967296,rfl,rfl,by rw[List.length_set];exact hc,okL_set hok _ _ hsum,by omega,hwq,?_,fun hlt=>absurd hlt hin2,fun j hj => ?_⟩,by omega⟩
   ·rw[wth_set_take (by omega),hval]
   ·rw[getD_set_ne' (by omega)]
    exact hz j (by omega)
theorem XL_row {G:List (Nat×Value)} (hG:GMet G):CallOk Tryz.prog G CX.X:=by
 refine tab_row_ok (mu:=CZ.mu) (good:=good) (tabOk_of (clone_ok hG) cz_none) good_ok XL fun g args r exps hx => ?_
 unfold XL at hx
 split at hx
 ·rename_i hg
  have hg:g=288:=Nat.eq_of_beq_eq_true hg
  subst hg
  split at hx
  ·rename_i s k n
   split at hx
   ·rename_i xs hd
    split at hx
    ·rename_i hc
     obtain⟨rfl,h1,h2⟩:=decV_some hd
     cases hx
     exact .inr (.inl (left_row xs k n h1 h2 hc.1 hc.2.1 hc.2.2))
    ·cases hx
   ·cases hx
  ·cases hx
 split at hx
 ·rename_i hg
  have hg:g=212:=Nat.eq_of_beq_eq_true hg
  subst hg
  unfold xSplit at hx
  split at hx
  ·rename_i s sep
   split at hx
   ·rename_i c hc
    split at hx
    ·rename_i hl
     cases hx
     have e2:sep=bs [c]:=by rw[<- hc];rfl
     rw[e2]
     have hl':s.data.toList.length<=1048576:=by rw[<- bs_size];exact hl
     exact .inr (.inl (split_row s.data.toList c hl'))
    ·cases hx
   ·cases hx
  ·cases hx
 split at hx
 ·unfold xIns at hx
  split at hx
  ·exact .inr (.inr ⟨_,_,_,rfl⟩)
  ·cases hx
 split at hx
 ·unfold xDel at hx
  split at hx
  ·exact .inr (.inr ⟨_,_,_,rfl⟩)
  ·cases hx
 exact .inl hx
theorem XL_ok {G:List (Nat×Value)} (hG:GMet G):TabOk Tryz.prog G CX.X where
 ok:=XL_row hG
 inn:=fun g k st vs r exps h=>by
  have h:XL g [.st k st vs]=some (r,exps):=h
  unfold XL at h
  split at h
  ·cases h
  split at h
  ·rw[show xSplit [.st k st vs]=none from rfl]at h;cases h
  split at h
  ·rename_i hg
   rw[show g=128 from Nat.eq_of_beq_eq_true hg]
   exact fun w0 F I Z N β a w vals _=>ins_in h w0 F I Z N β a w vals
  split at h
  ·rename_i hg
   rw[show g=104 from Nat.eq_of_beq_eq_true hg]
   exact fun w0 F I Z N β a w vals _=>del_in h w0 F I Z N β a w vals
  rw[cz_none]at h
  cases h
 look:=fun f st vs=>by
  show XL f [.st true st vs]=none
  unfold XL
  split
  ·rfl
  split
  ·rfl
  split
  ·rfl
  split
  ·rfl
  exact cz_none _ _ _ _
 eqv:=fun g b s vs r e h l=>by
  have h:XL g [.st b s vs]=some (r,e):=h
  show ∃m:TV->TV,∀v,XL g [.st b (s.upd l v) vs]=some (r.upd l (m v),e)
  unfold XL at h ⊢
  split at h
  ·cases h
  rename_i c1
  split at h
  ·rw[show xSplit [.st b s vs]=none from rfl]at h;cases h
  rename_i c2
  split at h
  ·rename_i hg
   obtain⟨m,hm⟩:=ins_eqv h l
   exact⟨m,fun v=>(if_neg c1).trans ((if_neg c2).trans ((if_pos hg).trans (hm v)))⟩
  rename_i c3
  split at h
  ·rename_i hg
   obtain⟨m,hm⟩:=del_eqv h l
   exact⟨m,fun v=>(if_neg c1).trans ((if_neg c2).trans ((if_neg c3).trans ((if_pos hg).trans (hm v))))⟩
  rw[cz_none]at h
  cases h
theorem nat_left (xs:List Nat) (k n:Nat) (hx:okL xs) (hl:xs.length<=1073741824) (hk:k<32) (hn:xs.length<=n) (hn':n<=xs.length+1) :
  FnR CX 288 [natV xs,.int .u64 k,.int .i64 n] ((limN n (wth xs*2^k)).map limb) 1 0 n:=by
 refine⟨1,[none,none,none],?_⟩
 have h:XL 288 [.sv (natV xs),.sv (.int .u64 (.ofNat k)),.sv (.int .i64 (.ofNat n))]=some (.row ((limN n (wth xs*2^k)).map limb) 1 0 n,[none,none,none]):=by
  unfold XL
  rw[if_pos (by rfl)]
  simp only[decV_nat hx hl]
  rw[if_pos ⟨hk,hn,hn'⟩]
 unfold callN
 have h4:CX.X 288 ([natV xs,.int .u64 k,.int .i64 n].map Arg.sv)=some (.row ((limN n (wth xs*2^k)).map limb) 1 0 n,[none,none,none]):=h
 rw[stq_sv,h4]
end Go.Proofs.YtcfjiolldehegaaGreatDoor
namespace Go.Proofs.YtcfjiolldehegaaGreatDoor
open Go.Ev
theorem split_cons (c:UInt8) (l:List UInt8) : ∃x xs,splitB c l=x::xs:=by
 cases h:splitB c l with
 |nil=>have:=split_len c l;rw[h]at this;simp at this
 |cons x xs=>exact⟨x,xs,rfl⟩
theorem plain_split : ∀ (l:List UInt8) (x:List UInt8) (xs:List (List UInt8)),splitB 10 l=x::xs ->
  plainL false l=frontL 35 x++Lib.joinTail [10] (xs.map (frontL 35))/\plainL true l=Lib.joinTail [10] (xs.map (frontL 35)):=by
 intro l
 induction l with
 |nil=>
  intro x xs h
  simp[splitB]at h
  obtain⟨rfl,rfl⟩:=h
  exact⟨rfl,rfl⟩
 |cons b l ih=>
  intro x xs h
  obtain⟨y,ys,hy⟩:=split_cons 10 l
  obtain⟨h1,h2⟩:=ih y ys hy
  by_cases hb:b=10
  ·subst hb
   rw[splitB]at h
   simp only[BEq.rfl,if_true]at h
   injection h with e1 e2
   subst e1
   rw[<- e2,hy,plainL,plainL]
   simp only[BEq.rfl,if_true]
   rw[h1]
   unfold Lib.joinTail
   simp[frontL]
  ·have hb':(b==10)=false:=by simpa using hb
   rw[splitB,hb',hy]at h
   simp only[Bool.false_eq_true,if_false]at h
   injection h with e1 e2
   subst e1 e2
   rw[plainL,plainL,hb']
   simp only[Bool.false_eq_true,if_false,Bool.false_or,Bool.true_or,if_true]
   refine⟨?_,h2⟩
   by_cases hc:b=35
   ·subst hc
    simp only[BEq.rfl,if_true]
    rw[h2]
    simp[frontL]
   ·have hc':(b==35)=false:=by simpa using hc
    have hn:(b != 35)=true:=by simpa using hc
    rw[hc']
    simp only[Bool.false_eq_true,if_false]
    rw[h1,show frontL 35 (b::y)=b::frontL 35 y by unfold frontL;rw[List.takeWhile_cons,hn];rfl]
    rfl
theorem plain_join (l:List UInt8):Lib.join ((splitB 10 l).map (frontL 35)) [10]=plainL false l:=by
 obtain⟨x,xs,h⟩:=split_cons 10 l
 rw[(plain_split l x xs h).1,h,List.map_cons,Lib.join_cons]
theorem plain_len (l:List UInt8) : ∀off,(plainL off l).length<=l.length:=by
 induction l with
 |nil=>intro off;cases off<;>simp[plainL]
 |cons b l ih=>
  intro off
  have h1:=ih false
  have h2:=ih true
  rw[plainL]
  split
  ·simpa using h1
  ·split
   ·simp;omega
   ·simpa using h1
theorem x_join {xs:List (List UInt8)} {n:Nat} (sep:List UInt8) (hn:xs.length=n) (h1:n<=140737488355328) (h2:(Lib.join xs sep).length<=140737488355328) :
  Go.Ev.Fn CX 19 [.sl n (xs.map strC),.str (bs sep)] (.str (bs (Lib.join xs sep))):=by
 refine⟨1,List.replicate 2 none,?_⟩
 have e : ∀ys:List (List UInt8),strsOf (ys.map strC)=some ys:=by
  intro ys
  induction ys with
  |nil=>rfl
  |cons y ys ih=>
   rw[List.map_cons]
   show (match strsOf (ys.map strC) with|some l=>some ((bs y).data.toList::l)|none=>none)=_
   rw[ih,bs_toList]
 have h:xJoin [.sv (.sl n (xs.map strC)),.sv (.str (bs sep))]=some (.sv (.str (bs (Lib.join xs sep))),List.replicate 2 none):=by
  unfold xJoin
  simp only[e,bs_toList]
  rw[if_pos ⟨hn,h1,h2⟩]
 have h4:CX.X 19 ([SV.sl n (xs.map strC),.str (bs sep)].map Arg.sv)=some (.sv (.str (bs (Lib.join xs sep))),List.replicate 2 none):=h
 unfold callN
 rw[stq_sv,h4]
theorem str_Split (l:List UInt8) (c:UInt8) (hl:l.length<=1048576) :
  FnR CX 212 [.str (bs l),.str (bs [c])] ((splitB c l).map strC) 1 0 (splitB c l).length:=by
 refine⟨1,List.replicate 2 none,?_⟩
 have h:xSplit [.sv (.str (bs l)),.sv (.str (bs [c]))]=some (.row ((splitB c l).map strC) 1 0 (splitB c l).length,List.replicate 2 none):=by
  unfold xSplit
  simp only[bs_toList]
  rw[if_pos (by rw[bs_size];exact hl)]
 have h4:CX.X 212 ([SV.str (bs l),.str (bs [c])].map Arg.sv)=some (.row ((splitB c l).map strC) 1 0 (splitB c l).length,List.replicate 2 none):=h
 unfold callN
 rw[stq_sv,h4]
theorem data_plain (l:List UInt8) (hl:l.length<=1048576):Go.Ev.Fn CX 127 [.str (bs l)] (.str (bs (plainL false l))):=by
 have hsp:=str_Split l 10 hl
 have hlen:=split_len 10 l
 have hcl:=count_le (c:=10) (l:=l)
 have hj:=x_join (xs:=(splitB 10 l).map (frontL 35)) (n:=(splitB 10 l).length) [10] (by rw[List.length_map]) (by omega) (by rw[plain_join];have:=plain_len l false;omega)
 rw[plain_join]at hj
 have hlin : ∀x∈splitB 10 l,x.length<=1099511627776:=by
  have key : ∀ (l:List UInt8),∀x∈splitB 10 l,x.length<=l.length:=by
   intro l
   induction l with
   |nil=>intro x hx;simp[splitB]at hx;subst hx;simp
   |cons b l ih=>
    intro x hx
    obtain⟨y,ys,hy⟩:=split_cons 10 l
    rw[splitB,hy]at hx
    split at hx
    ·rcases List.mem_cons.1 hx with h|h
     ·subst h;simp
     ·have:=ih x (by rw[hy];exact h)
      simp;omega
    ·rcases List.mem_cons.1 hx with h|h
     ·subst h
      have:=ih y (by rw[hy];exact List.mem_cons_self)
      simp;omega
     ·have:=ih x (by rw[hy];exact List.mem_cons_of_mem _ h)
      simp;omega
  intro x hx
  have:=key l x hx
  omega
 generalize hL:splitB 10 l=L at *
 generalize hn:L.length=n at *
 refine fni Tryz.f127 ?_;unfold Tryz.f127;simp only[Option.get!_some]
 repeat (first|simp only[go_sem,mk_bs]|simp (disch:=first|exact oa|fail) only[AX,mk_bs]|refine wki ?_|refine wqn ?_)
 refine vf_row hsp ?_
 repeat (first|simp only[go_sem]|simp (disch:=first|exact oa|fail) only[AX]|refine wki ?_|refine wqn ?_)
 refine vp_loop_inv (fun s=>s.tmp 3 = .ref 7 0 1 0 n/\s.tmp 8 = .ref 7 0 1 0 n/\s.tmp 9 = .sv (.int .i64 (n:Int)) /\
   ∃ (i:Nat) (cs:List SV),s.tmp 10 = .sv (.int .i64 (i:Int))/\s.obj 7 0=some cs/\i<=n/\cs.length=n/\cs.take i=((L.map (frontL 35)).take i).map strC/\cs.drop i=(L.drop i).map strC)
  (fun s=>match s.tmp 10 with | .sv (.int _ i)=>n-i.toNat|_=>0) ?_ ?_
 ·exact⟨rfl,rfl,rfl,0,_,rfl,rfl,by omega,by rw[List.length_map];exact hn,rfl,rfl⟩
 rintro s2 ⟨i3,i8,i9,i,cs,i10,iO,hi,hcs,ht,hd⟩
 by_cases hend:i=n
 ·subst hend
  have e:cs=(L.map (frontL 35)).map strC:=by
   rw[List.take_of_length_le (by omega),List.take_of_length_le (by rw[List.length_map];omega)]at ht
   exact ht
  have e2:cs.take i=(L.map (frontL 35)).map strC:=by rw[<- e,List.take_of_length_le (by omega)]
  repeat (first|simp only[go_sem,i3,i8,i9,i10,iO,mk_bs,e2]|simp (disch:=first|exact oa|fail) only[AX,i3,i8,i9,i10,iO,mk_bs,e2]|refine wki ?_|refine wqn ?_|refine vf_of (by first|exact hj) ?_)
 ·have hlt:i<L.length:=by omega
  have hx:=str_Cut CX_str L[i] 35 (hlin _ (List.getElem_mem hlt))
  have hh:(cs.drop i).head?=some (.str (bs L[i])):=by
   rw[hd,List.drop_eq_getElem_cons hlt]
   rfl
  have hn2:cs.take i++[SV.str (bs (frontL 35 L[i]))]++cs.drop (i+1)=cs.set i (.str (bs (frontL 35 L[i]))):=by
   rw[List.set_eq_take_append_cons_drop,if_pos (by omega)]
   simp
  repeat (first|simp only[go_sem,i3,i8,i9,i10,iO,mk_bs,hh,hcs,hn2]|simp (disch:=first|exact oa|fail) only[AX,i3,i8,i9,i10,iO,mk_bs,hh,hcs,hn2]|refine wki ?_|refine wqn ?_|refine vf_of (by first|exact hx) ?_)
  refine⟨⟨i+1,cs.set i (.str (bs (frontL 35 L[i]))),rfl,rfl,by omega,by rw[List.length_set];exact hcs,?_,?_⟩,by omega⟩
  ·rw[List.take_add_one,List.take_add_one,List.map_append,List.take_set_of_le (Nat.le_refl _),ht,List.getElem?_set_self (by omega),List.getElem?_map,List.getElem?_eq_getElem hlt]
   rfl
  ·have:=congrArg (List.drop 1) hd
   rw[List.drop_drop,<- List.map_drop,List.drop_drop]at this
   rw[List.drop_set_of_lt (by omega)]
   exact this
end Go.Proofs.YtcfjiolldehegaaGreatDoor
namespace Go.Proofs.YtcfjiolldehegaaGreatDoor
open Go.Ev
theorem nat_Is (xs:List Nat) (hl:xs.length<=1099511627776):Go.Ev.Fn CX 228 [natV xs] (.bool (isT xs)):=by
 refine fni Tryz.f228 ?_;unfold Tryz.f228;simp only[Option.get!_some]
 by_cases h0:xs.length=0
 ·have e:isT xs=true:=by simp[isT,h0]
  rw[e]
  repeat (first|simp only[go_sem]|simp (disch:=first|exact oa|fail) only[AX]|refine wki ?_|refine wqn ?_|refine vpx [] ?_)
 ·have e:isT xs=(xs.getD (xs.length-1) 0 != 0):=by simp[isT,h0]
  rw[e]
  repeat (first|simp only[go_sem]|simp (disch:=first|exact oa|fail) only[AX]|refine wki ?_|refine wqn ?_|refine vpx [] ?_)
  rw[bne_nat]
theorem lim_dropLast {xs:List Nat} (h:isT xs=false):xs.length≠0/\lim (wth (xs.take (xs.length-1)))=lim (wth xs):=by
 unfold isT at h
 simp only[Bool.or_eq_false_iff,beq_eq_false_iff_ne,bne_eq_false_iff_eq]at h
 refine⟨h.1,?_⟩
 rcases xs.eq_nil_or_concat with rfl|⟨ys,z,rfl⟩
 ·rfl
 ·rw[List.concat_eq_append]at h ⊢
  have e:z=0:=by simpa using h.2
  subst e
  simp[lim_snoc0]
theorem nat_trim (xs:List Nat) (hx:okL xs) (hl:xs.length<=1099511627776):Go.Ev.Fn CX 147 [natV xs] (natV (lim (wth xs))):=by
 refine fni Tryz.f147 ?_;unfold Tryz.f147;simp only[Option.get!_some]
 simp only[go_sem]
 refine vp_loop_inv (fun s => ∃ys,s.tmp 0 = .sv (natV ys)/\okL ys/\ys.length<=xs.length/\lim (wth ys)=lim (wth xs)) (fun s=>(lenTV (s.tmp 0)).getD 0) ⟨xs,rfl,hx,Nat.le_refl _,rfl⟩ ?_
 rintro s ⟨ys,h0,hy,hle,he⟩
 repeat (first|simp only[go_sem,h0]|simp (disch:=first|exact oa|fail) only[AX,h0]|refine wki ?_|refine wqn ?_|refine vpx [] ?_)
 refine vf_of (nat_Is ys (by omega)) ?_;simp only[go_sem,h0]
 by_cases hT:isT ys=true
 ·repeat (first|simp only[go_sem,h0,hT,Bool.not_true]|simp (disch:=first|exact oa|fail) only[AX,h0,hT,Bool.not_true]|refine wki ?_|refine wqn ?_|refine vpx [] ?_)
  rw[<- he,<- lim_unique hy (isT_iff.1 hT)]
 ·have hT:isT ys=false:=by simpa using hT
  obtain⟨h1,h2⟩:=lim_dropLast hT
  repeat (first|simp only[go_sem,h0,hT,Bool.not_false]|simp (disch:=first|exact oa|fail) only[AX,h0,hT,Bool.not_false]|refine wki ?_|refine wqn ?_|refine vpx [] ?_)
  refine⟨⟨ys.take (ys.length-1),?_,okL_take hy _,?_,h2.trans he⟩,?_⟩
  ·rw[natV_cut (by omega)]
  ·rw[List.length_take];omega
  ·simp only[lenTV,Option.getD_some];omega
theorem nat_Trim (xs:List Nat) (hx:okL xs) (hl:xs.length<=274877906944):Go.Ev.Fn CX 181 [natV xs] (natV (lim (wth xs))):=by
 have hc:Go.Ev.Fn CX 259 [natV (lim (wth xs))] (natV (lim (wth xs))):=by
  refine⟨1,[none],?_⟩
  have h1:=lim_length_le hx
  have h2:=natV_one (lim (wth xs))
  have h3:cloneX 259 259 [.sv (natV (lim (wth xs)))]=some (.sv (natV (lim (wth xs))),[none]):=by
   simp only[cloneX,if_true]
   rw[if_pos ⟨natV_len _,h2,by omega⟩]
  have h4:CX.X 259 [.sv (natV (lim (wth xs)))]=some (.sv (natV (lim (wth xs))),[none]):=h3
  unfold callN
  rw[stq_sv,List.map_cons,List.map_nil,h4]
 refine fni Tryz.f181 ?_;unfold Tryz.f181;simp only[Option.get!_some]
 simp only[go_sem]
 refine vf_of (nat_trim xs hx (by omega)) ?_;simp only[go_sem]
 refine vf_of (hc) ?_;simp only[go_sem]
theorem nat_Of (n:Nat) (hn:n<18446744073709551616):Go.Ev.Fn CX 79 [.int .u64 n] (natV (lim n)):=by
 refine fni Tryz.f79 ?_;unfold Tryz.f79;simp only[Option.get!_some]
 repeat (first|simp only[go_sem]|simp (disch:=first|exact oa|fail) only[AX]|refine wki ?_|refine wqn ?_|refine vpx [] ?_)
 have e:wth [n%4294967296,n/4294967296]=n:=by simp only[wth];omega
 refine vf_of (nat_trim [n%4294967296,n/4294967296] (by simp[okL];omega) (by simp)) ?_;repeat (first|simp only[go_sem]|simp (disch:=first|exact oa|fail) only[AX]|refine wki ?_|refine wqn ?_|refine vpx [] ?_)
 rw[e]
end Go.Proofs.YtcfjiolldehegaaGreatDoor
namespace Go.Proofs.YtcfjiolldehegaaGreatDoor
open Go.Ev
def cmpN (a b:Nat):Int:=if a<b then -1 else if a=b then 0 else 1
theorem wth_lt_of {xs ys:List Nat} (hx:okL xs) (hy:okL ys) (hl:xs.length=ys.length) {i:Nat} (hi:i<xs.length) (hd:xs.drop (i+1)=ys.drop (i+1)) (h:xs.getD i 0<ys.getD i 0):wth xs<wth ys:=by
 have h1 : ∀ (zs:List Nat),i<zs.length->wth zs=wth (zs.take i)+4294967296^i*(zs.getD i 0+4294967296*wth (zs.drop (i+1))):=by
  intro zs hz
  conv=>lhs;rw[<- List.take_append_drop i zs]
  rw[wth_append,List.length_take,Nat.min_eq_left (by omega),List.drop_eq_getElem_cons hz,wth_cons,List.getD_eq_getElem?_getD,List.getElem?_eq_getElem hz]
  rfl
 rw[h1 xs hi,h1 ys (by omega),hd]
 have h2:=wth_lt (okL_take hx i)
 rw[List.length_take,Nat.min_eq_left (by omega)]at h2
 have h3:4294967296^i*(xs.getD i 0+4294967296*wth (ys.drop (i+1))+1)<=4294967296^i*(ys.getD i 0+4294967296*wth (ys.drop (i+1))):=Nat.mul_le_mul_left _ (by omega)
 rw[Nat.mul_add _ _ 1,Nat.mul_one]at h3
 omega
theorem lim_length_lt {a b:Nat} (h:(lim a).length<(lim b).length):a<b:=by
 rcases Nat.lt_or_ge a b with h1|h1
 ·exact h1
 ·have:=trimL_length (okL_lim b) (okL_lim a) (trimL_lim b) (by rw[wth_lim,wth_lim];exact h1)
  omega
theorem nat_Cmp (xs ys:List Nat) (hx:okL xs) (hy:okL ys) (hl:xs.length<=1099511627776) (hm:ys.length<=1099511627776):Go.Ev.Fn CX 96 [natV xs,natV ys] (.int .i64 (cmpN (wth xs) (wth ys))):=by
 refine fni Tryz.f96 ?_;unfold Tryz.f96;simp only[Option.get!_some]
 have lx:=lim_length_le hx
 have ly:=lim_length_le hy
 repeat (first|simp only[go_sem]|simp (disch:=first|exact oa|fail) only[AX]|refine wki ?_|refine wqn ?_|refine vpx [] ?_)
 refine vf_of (nat_trim xs hx (by omega)) ?_;repeat (first|simp only[go_sem]|simp (disch:=first|exact oa|fail) only[AX]|refine wki ?_|refine wqn ?_|refine vpx [] ?_)
 refine vf_of (nat_trim ys hy (by omega)) ?_;repeat (first|simp only[go_sem]|simp (disch:=first|exact oa|fail) only[AX]|refine wki ?_|refine wqn ?_|refine vpx [] ?_)
 by_cases h1:(lim (wth xs)).length=(lim (wth ys)).length
 ·repeat (first|simp only[go_sem]|simp (disch:=first|exact oa|fail) only[AX]|refine wki ?_|refine wqn ?_)
  refine vp_loop_inv (fun s=>s.tmp 0 = .sv (natV (lim (wth xs)))/\s.tmp 1 = .sv (natV (lim (wth ys))) /\ ∃i:Nat,s.tmp 5 = .sv (.int .i64 ((i:Int)-1))/\i<=(lim (wth xs)).length/\(lim (wth xs)).drop i=(lim (wth ys)).drop i)
   (fun s=>match s.tmp 5 with | .sv (.int _ i)=>(i+1).toNat|_=>0) ⟨rfl,rfl,(lim (wth xs)).length,rfl,Nat.le_refl _,?_⟩ ?_
  ·rw[List.drop_length,h1,List.drop_length]
  rintro s ⟨g0,g1,i,g5,hi,hd⟩
  rcases Nat.eq_zero_or_pos i with rfl|hi0
  ·have e:cmpN (wth xs) (wth ys)=0:=by
    have:=congrArg wth hd
    rw[List.drop_zero,List.drop_zero,wth_lim,wth_lim]at this
    rw[this]
    simp[cmpN]
   rw[e]
   repeat (first|simp only[go_sem,g0,g1,g5]|simp (disch:=first|exact oa|fail) only[AX,g0,g1,g5]|refine wki ?_|refine wqn ?_|refine vpx [] ?_)
  ·repeat (first|simp only[go_sem,g0,g1,g5]|simp (disch:=first|exact oa|fail) only[AX,g0,g1,g5]|refine wki ?_|refine wqn ?_|refine vpx [] ?_)
   have hdr : ∀zs:List Nat,i<=zs.length->zs.drop (i-1)=zs.getD (i-1) 0::zs.drop i:=by
    intro zs hz
    rw[List.drop_eq_getElem_cons (show i-1<zs.length by omega),List.getD_eq_getElem?_getD,List.getElem?_eq_getElem (show i-1<zs.length by omega),show i-1+1=i by omega]
    rfl
   rcases Nat.lt_trichotomy ((lim (wth xs)).getD (i-1) 0) ((lim (wth ys)).getD (i-1) 0) with hc|hc|hc
   ·have:=wth_lt_of (okL_lim _) (okL_lim _) h1 (i:=i-1) (by omega) (by rw[show i-1+1=i by omega];exact hd) hc
    rw[wth_lim,wth_lim]at this
    have e:cmpN (wth xs) (wth ys) = -1:=by simp[cmpN,this]
    rw[e]
    repeat (first|simp only[go_sem,g0,g1,g5]|simp (disch:=first|exact oa|fail) only[AX,g0,g1,g5]|refine wki ?_|refine wqn ?_|refine vpx [] ?_)
   ·repeat (first|simp only[go_sem,g0,g1,g5]|simp (disch:=first|exact oa|fail) only[AX,g0,g1,g5]|refine wki ?_|refine wqn ?_|refine vpx [] ?_)
    refine⟨⟨i-1,?_,by omega,?_⟩,by omega⟩
    ·simp only[Int.natCast_sub hi0]
    ·rw[hdr _ hi,hdr _ (by omega),hc,hd]
   ·have:=wth_lt_of (okL_lim _) (okL_lim _) h1.symm (i:=i-1) (by omega) (by rw[show i-1+1=i by omega];exact hd.symm) hc
    rw[wth_lim,wth_lim]at this
    have e:cmpN (wth xs) (wth ys)=1:=by unfold cmpN;rw[if_neg (by omega),if_neg (by omega)]
    rw[e]
    repeat (first|simp only[go_sem,g0,g1,g5]|simp (disch:=first|exact oa|fail) only[AX,g0,g1,g5]|refine wki ?_|refine wqn ?_|refine vpx [] ?_)
 ·by_cases h2:(lim (wth xs)).length<(lim (wth ys)).length
  ·have:=lim_length_lt h2
   have e:cmpN (wth xs) (wth ys) = -1:=by simp[cmpN,this]
   rw[e]
   repeat (first|simp only[go_sem]|simp (disch:=first|exact oa|fail) only[AX]|refine wki ?_|refine wqn ?_|refine vpx [] ?_)
  ·have:=lim_length_lt (a:=wth ys) (b:=wth xs) (by omega)
   have e:cmpN (wth xs) (wth ys)=1:=by unfold cmpN;rw[if_neg (by omega),if_neg (by omega)]
   rw[e]
   repeat (first|simp only[go_sem]|simp (disch:=first|exact oa|fail) only[AX]|refine wki ?_|refine wqn ?_|refine vpx [] ?_)
end Go.Proofs.YtcfjiolldehegaaGreatDoor
namespace Go.Proofs.YtcfjiolldehegaaGreatDoor
open Go.Ev
theorem nat_Add (xs ys:List Nat) (hx:okL xs) (hy:okL ys) (hl:xs.length<=1073741824) (hm:ys.length<=1073741824):Go.Ev.Fn CX 176 [natV xs,natV ys] (natV (lim (wth xs+wth ys))):=by
 refine fni Tryz.f176 ?_;unfold Tryz.f176;simp only[Option.get!_some]
 have lx:=lim_length_le hx
 have ly:=lim_length_le hy
 repeat (first|simp only[go_sem]|simp (disch:=first|exact oa|fail) only[AX]|refine wki ?_|refine wqn ?_|refine vpx [] ?_)
 refine vf_of (nat_trim xs hx (by omega)) ?_;repeat (first|simp only[go_sem]|simp (disch:=first|exact oa|fail) only[AX]|refine wki ?_|refine wqn ?_|refine vpx [] ?_)
 refine vf_of (nat_trim ys hy (by omega)) ?_;repeat (first|simp only[go_sem]|simp (disch:=first|exact oa|fail) only[AX]|refine wki ?_|refine wqn ?_|refine vpx [] ?_)
 refine vc_cut (Mid:=fun s => ∃a b,s.tmp 0 = .sv (natV a)/\s.tmp 1 = .sv (natV b)/\okL a/\okL b/\b.length<=a.length/\a.length<=1073741824/\wth a+wth b=wth xs+wth ys) ?_ ?_
 ·by_cases h1:(lim (wth xs)).length<(lim (wth ys)).length
  ·repeat (first|simp only[go_sem]|simp (disch:=first|exact oa|fail) only[AX]|refine wki ?_|refine wqn ?_|refine vpx [] ?_)
   exact⟨_,_,rfl,rfl,okL_lim _,okL_lim _,by omega,by omega,by rw[wth_lim,wth_lim];omega⟩
  ·repeat (first|simp only[go_sem]|simp (disch:=first|exact oa|fail) only[AX]|refine wki ?_|refine wqn ?_|refine vpx [] ?_)
   exact⟨_,_,rfl,rfl,okL_lim _,okL_lim _,by omega,by omega,by rw[wth_lim,wth_lim]⟩
 rintro s ⟨a,b,g0,g1,ha,hb,hab,hla,hsum⟩
 repeat (first|simp only[go_sem,g0,g1]|simp (disch:=first|exact oa|fail) only[AX,g0,g1]|refine wki ?_|refine wqn ?_)
 generalize hg:s.gen 23=g
 refine vp_loop_inv (fun s'=>s'.tmp 0 = .sv (natV a)/\s'.tmp 1 = .sv (natV b)/\s'.tmp 5 = .ref 23 g 1 0 (a.length+1)/\s'.tmp 24 = .sv (natV a)/\s'.tmp 25 = .sv (.int .i64 a.length) /\
   ∃c:List Nat,∃i carry:Nat,s'.obj 23 g=some (c.map limb)/\s'.tmp 6 = .sv (.int .u64 carry)/\s'.tmp 26 = .sv (.int .i64 i)/\c.length=a.length+1/\okL c/\i<=a.length/\carry<=1 /\
    wth (c.take i)+4294967296^i*carry=wth (a.take i)+wth (b.take i))
  (fun s=>match s.tmp 26 with | .sv (.int _ i)=>a.length-i.toNat|_=>0) ?_ ?_
 ·refine⟨g0,g1,rfl,rfl,rfl,List.replicate (a.length+1) 0,0,0,?_,rfl,rfl,List.length_replicate ..,okL_replicate _,by omega,by omega,rfl⟩
  simp[St.put,St.new,hg]
 rintro s' ⟨i0,i1,i5,i24,i25,c,i,carry,iO,i6,i26,hc,hok,hi,hcar,hw⟩
 by_cases hend:i=a.length
 ·subst hend
  repeat (first|simp only[go_sem,i0,i1,i5,i24,i25,iO,i6,i26]|simp (disch:=first|exact oa|fail) only[AX,i0,i1,i5,i24,i25,iO,i6,i26]|refine wki ?_|refine wqn ?_|refine vpx [] ?_)
  refine vf_of (fn_natV (nat_trim (c.set a.length carry) (okL_set hok _ _ (by omega)) (by rw[List.length_set];omega)) (by rw[List.length_set];omega)) ?_;repeat (first|simp only[go_sem]|simp (disch:=first|exact oa|fail) only[AX]|refine wki ?_|refine wqn ?_|refine vpx [] ?_)
  have e:wth (c.set a.length carry)=wth xs+wth ys:=by
   rw[<- List.take_of_length_le (l:=c.set a.length carry) (i:=a.length+1) (by rw[List.length_set];omega),wth_set_take (by omega),hw,List.take_of_length_le (Nat.le_refl _),List.take_of_length_le hab,hsum]
  rw[e]
 ·have h1:=getD_lt ha i
  have h2:=getD_lt hb i
  have key : ∀x:Nat,x=carry+a.getD i 0+b.getD i 0->wth ((c.set i (x%4294967296)).take (i+1))+4294967296^(i+1)*(x/4294967296)=wth (a.take (i+1))+wth (b.take (i+1)):=by
   intro x hx
   rw[wth_set_take (by omega),wth_take_succ,wth_take_succ]
   have e1:4294967296^i*(x%4294967296)+4294967296^(i+1)*(x/4294967296)=4294967296^i*x:=by
    rw[Nat.pow_succ,Nat.mul_assoc,<- Nat.mul_add,Nat.mod_add_div]
   have e2:4294967296^i*x=4294967296^i*carry+4294967296^i*a.getD i 0+4294967296^i*b.getD i 0:=by
    rw[hx,Nat.mul_add,Nat.mul_add]
   omega
  by_cases hib:i<b.length
  ·repeat (first|simp only[go_sem,i0,i1,i5,i24,i25,iO,i6,i26]|simp (disch:=first|exact oa|fail) only[AX,i0,i1,i5,i24,i25,iO,i6,i26]|refine wki ?_|refine wqn ?_|refine vpx [] ?_)
   exact⟨⟨c.set i ((carry+a.getD i 0+b.getD i 0)%4294967296),i+1,(carry+a.getD i 0+b.getD i 0)/4294967296,rfl,rfl,rfl,by rw[List.length_set];exact hc,okL_set hok _ _ (by omega),by omega,by omega,key _ rfl⟩,by omega⟩
  ·have e0:b.getD i 0=0:=by rw[List.getD_eq_getElem?_getD,List.getElem?_eq_none (by omega)];rfl
   repeat (first|simp only[go_sem,i0,i1,i5,i24,i25,iO,i6,i26]|simp (disch:=first|exact oa|fail) only[AX,i0,i1,i5,i24,i25,iO,i6,i26]|refine wki ?_|refine wqn ?_|refine vpx [] ?_)
   exact⟨⟨c.set i ((carry+a.getD i 0)%4294967296),i+1,(carry+a.getD i 0)/4294967296,rfl,rfl,rfl,by rw[List.length_set];exact hc,okL_set hok _ _ (by omega),by omega,by omega,key _ (by omega)⟩,by omega⟩
end Go.Proofs.YtcfjiolldehegaaGreatDoor
namespace Go.Proofs.YtcfjiolldehegaaGreatDoor
open Go.Ev
theorem bits_Add32 (x y c:Nat) (hx:x<4294967296) (hy:y<4294967296) (hc:c<4294967296) :
  Go.Ev.Fn CX 335 [limb x,limb y,limb c] (.tup [limb ((x+y+c)%4294967296),limb ((x+y+c)/4294967296)]):=by
 refine fni Tryz.f335 ?_;unfold Tryz.f335;simp only[Option.get!_some]
 repeat (first|simp only[go_sem]|simp (disch:=first|exact oa|fail) only[AX]|refine wki ?_|refine wqn ?_|refine vpx [] ?_)
theorem bits_Sub32 (x y b:Nat) (hx:x<4294967296) (hy:y<4294967296) (hb:b<=1) :
  Go.Ev.Fn CX 148 [limb x,limb y,limb b] (.tup [limb (((x+(4294967296-y))%4294967296+(4294967296-b))%4294967296),limb (if x<y+b then 1 else 0)]):=by
 refine fni Tryz.f148 ?_;unfold Tryz.f148;simp only[Option.get!_some]
 have hd : ∃d,d=((x+(4294967296-y))%4294967296+(4294967296-b))%4294967296:=⟨_,rfl⟩
 obtain⟨d,hd⟩:=hd
 rw[<- hd,<- sub32_bit hx hy hb hd]
 have hd':d<4294967296:=by omega
 have h0:4294967295 ^^^ x<4294967296:=Nat.xor_lt_two_pow (n:=32) (by decide) hx
 have h1:(4294967295 ^^^ x) &&& y<4294967296:=Nat.lt_of_le_of_lt Nat.and_le_right hy
 have h2:x ^^^ y<4294967296:=Nat.xor_lt_two_pow (n:=32) hx hy
 have h3:4294967295 ^^^ (x ^^^ y)<4294967296:=Nat.xor_lt_two_pow (n:=32) (by decide) h2
 have h4:(4294967295 ^^^ (x ^^^ y)) &&& d<4294967296:=Nat.lt_of_le_of_lt Nat.and_le_right hd'
 repeat (first|simp only[go_sem,u32_sub,<- hd]|simp (disch:=first|exact oa|fail) only[AX,u32_sub,<- hd]|refine wki ?_|refine wqn ?_|refine vpx [] ?_)
theorem bits_Div32 (hi lo y:Nat) (h:hi<y) (hy:y<4294967296) (hlo:lo<4294967296) :
  Go.Ev.Fn CX 260 [limb hi,limb lo,limb y] (.tup [limb ((hi*4294967296+lo)/y),limb ((hi*4294967296+lo)%y)]):=by
 refine fni Tryz.f260 ?_;unfold Tryz.f260;simp only[Option.get!_some]
 have hq:(hi*4294967296+lo)/y<4294967296:=by
  rw[Nat.div_lt_iff_lt_mul (by omega)]
  have:(hi+1)*4294967296<=y*4294967296:=Nat.mul_le_mul_right _ h
  omega
 have hr:(hi*4294967296+lo)%y<4294967296:=Nat.lt_trans (Nat.mod_lt _ (by omega)) hy
 have hX : ∃X,hi*4294967296+lo=X:=⟨_,rfl⟩
 obtain⟨X,hX⟩:=hX
 rw[hX]at hq hr ⊢
 generalize hQ:X/y=Q at *
 generalize hR:X%y=R at *
 repeat (first|simp only[go_sem,hX,hQ,hR]|simp (disch:=first|exact oa|fail) only[AX,hX,hQ,hR]|refine wki ?_|refine wqn ?_|refine vpx [] ?_)
end Go.Proofs.YtcfjiolldehegaaGreatDoor
namespace Go.Proofs.YtcfjiolldehegaaGreatDoor
open Go.Ev
theorem nat_Sub (xs ys:List Nat) (hx:okL xs) (hy:okL ys) (hl:xs.length<=1073741824) (hm:ys.length<=1073741824) :
  Go.Ev.Fn CX 76 [natV xs,natV ys] (if wth xs<wth ys then .tup [natV [],.bool false] else .tup [natV (lim (wth xs-wth ys)),.bool true]):=by
 refine fni Tryz.f76 ?_;unfold Tryz.f76;simp only[Option.get!_some]
 have lx:=lim_length_le hx
 have ly:=lim_length_le hy
 repeat (first|simp only[go_sem]|simp (disch:=first|exact oa|fail) only[AX]|refine wki ?_|refine wqn ?_|refine vpx [] ?_)
 refine vf_of (nat_Cmp xs ys hx hy (by omega) (by omega)) ?_;repeat (first|simp only[go_sem]|simp (disch:=first|exact oa|fail) only[AX]|refine wki ?_|refine wqn ?_|refine vpx [] ?_)
 by_cases hlt:wth xs<wth ys
 ·rw[if_pos hlt]
  have e:cmpN (wth xs) (wth ys) = -1:=by simp[cmpN,hlt]
  rw[e]
  repeat (first|simp only[go_sem]|simp (disch:=first|exact oa|fail) only[AX]|refine wki ?_|refine wqn ?_|refine vpx [] ?_)
  rfl
 ·rw[if_neg hlt]
  have e:decide (cmpN (wth xs) (wth ys)<0)=false:=by
   unfold cmpN;rw[if_neg hlt];split<;>rfl
  repeat (first|simp only[go_sem,e]|simp (disch:=first|exact oa|fail) only[AX,e]|refine wki ?_|refine wqn ?_|refine vpx [] ?_)
  refine vf_of (nat_trim xs hx (by omega)) ?_;repeat (first|simp only[go_sem]|simp (disch:=first|exact oa|fail) only[AX]|refine wki ?_|refine wqn ?_|refine vpx [] ?_)
  refine vf_of (nat_trim ys hy (by omega)) ?_;repeat (first|simp only[go_sem]|simp (disch:=first|exact oa|fail) only[AX]|refine wki ?_|refine wqn ?_|refine vpx [] ?_)
  have hab:(lim (wth ys)).length<=(lim (wth xs)).length:=trimL_length (okL_lim _) (okL_lim _) (trimL_lim _) (by rw[wth_lim,wth_lim];omega)
  have ha:=okL_lim (wth xs)
  have hb:=okL_lim (wth ys)
  have va:=wth_lim (wth xs)
  have vb:=wth_lim (wth ys)
  generalize lim (wth xs)=a at *
  generalize lim (wth ys)=b at *
  refine vp_loop_inv (fun s'=>s'.tmp 0 = .sv (natV a)/\s'.tmp 1 = .sv (natV b)/\s'.tmp 6 = .ref 21 0 1 0 a.length/\s'.tmp 22 = .sv (natV a)/\s'.tmp 23 = .sv (.int .i64 a.length) /\
    ∃c:List Nat,∃i w:Nat,s'.obj 21 0=some (c.map limb)/\s'.tmp 7 = .sv (.int .u32 w)/\s'.tmp 24 = .sv (.int .i64 i)/\c.length=a.length/\okL c/\i<=a.length/\w<=1 /\
     wth (c.take i)+wth (b.take i)=wth (a.take i)+4294967296^i*w)
   (fun s=>match s.tmp 24 with | .sv (.int _ i)=>a.length-i.toNat|_=>0) ?_ ?_
  ·refine⟨rfl,rfl,rfl,rfl,rfl,List.replicate a.length 0,0,0,rfl,rfl,rfl,List.length_replicate ..,okL_replicate _,by omega,by omega,rfl⟩
  rintro s' ⟨i0,i1,i6,i22,i23,c,i,w,iO,i7,i24,hc,hok,hi,hw,hv⟩
  by_cases hend:i=a.length
  ·subst hend
   repeat (first|simp only[go_sem,i0,i1,i6,i22,i23,iO,i7,i24]|simp (disch:=first|exact oa|fail) only[AX,i0,i1,i6,i22,i23,iO,i7,i24]|refine wki ?_|refine wqn ?_|refine vpx [] ?_)
   have e:wth c=wth xs-wth ys:=by
    rw[List.take_of_length_le (by omega),List.take_of_length_le hab,List.take_of_length_le (Nat.le_refl _),va,vb]at hv
    have h0:=wth_lt hok
    rw[hc]at h0
    rcases Nat.eq_zero_or_pos w with rfl|hw0
    ·omega
    ·have:w=1:=by omega
     subst this
     have:=wth_lt ha
     omega
   refine vf_of (fn_natV (nat_trim c hok (by omega)) hc) ?_;repeat (first|simp only[go_sem]|simp (disch:=first|exact oa|fail) only[AX]|refine wki ?_|refine wqn ?_|refine vpx [] ?_)
   rw[e]
  ·have h1:=getD_lt ha i
   have h2:=getD_lt hb i
   have key : ∀x y v w':Nat,x=a.getD i 0->y=b.getD i 0->v+y+w=x+4294967296*w'->wth ((c.set i v).take (i+1))+wth (b.take (i+1))=wth (a.take (i+1))+4294967296^(i+1)*w':=by
    intro x y v w' hx' hy' he
    rw[wth_set_take (by omega),wth_take_succ,wth_take_succ,<- hx',<- hy',Nat.pow_succ,Nat.mul_assoc]
    have e1:4294967296^i*(v+y+w)=4294967296^i*(x+4294967296*w'):=by rw[he]
    rw[Nat.mul_add,Nat.mul_add,Nat.mul_add]at e1
    omega
   by_cases hib:i<b.length
   ·repeat (first|simp only[go_sem,i0,i1,i6,i22,i23,iO,i7,i24]|simp (disch:=first|exact oa|fail) only[AX,i0,i1,i6,i22,i23,iO,i7,i24]|refine wki ?_|refine wqn ?_|refine vpx [] ?_)
    refine vf_of (bits_Sub32 (a.getD i 0) (b.getD i 0) w h1 h2 hw) ?_;repeat (first|simp only[go_sem,i0,i1,i6,i22,i23,iO,i7,i24]|simp (disch:=first|exact oa|fail) only[AX,i0,i1,i6,i22,i23,iO,i7,i24]|refine wki ?_|refine wqn ?_|refine vpx [] ?_)
    refine⟨⟨c.set i (((a.getD i 0+(4294967296-b.getD i 0))%4294967296+(4294967296-w))%4294967296),i+1,if a.getD i 0<b.getD i 0+w then 1 else 0,rfl,rfl,rfl,by rw[List.length_set];exact hc,okL_set hok _ _ (by omega),by omega,by split<;>omega,key _ _ _ _ rfl rfl ?_⟩,by omega⟩
    split<;>omega
   ·have e0:b.getD i 0=0:=by rw[List.getD_eq_getElem?_getD,List.getElem?_eq_none (by omega)];rfl
    repeat (first|simp only[go_sem,i0,i1,i6,i22,i23,iO,i7,i24]|simp (disch:=first|exact oa|fail) only[AX,i0,i1,i6,i22,i23,iO,i7,i24]|refine wki ?_|refine wqn ?_|refine vpx [] ?_)
    refine vf_of (bits_Sub32 (a.getD i 0) 0 w h1 (by omega) hw) ?_;repeat (first|simp only[go_sem,i0,i1,i6,i22,i23,iO,i7,i24]|simp (disch:=first|exact oa|fail) only[AX,i0,i1,i6,i22,i23,iO,i7,i24]|refine wki ?_|refine wqn ?_|refine vpx [] ?_)
    refine⟨⟨c.set i (((a.getD i 0+4294967296)%4294967296+(4294967296-w))%4294967296),i+1,if a.getD i 0<w then 1 else 0,rfl,rfl,rfl,by rw[List.length_set];exact hc,okL_set hok _ _ (by omega),by omega,by split<;>omega,key _ _ _ _ rfl e0.symm ?_⟩,by omega⟩
    split<;>omega
end Go.Proofs.YtcfjiolldehegaaGreatDoor
namespace Go.Proofs.YtcfjiolldehegaaGreatDoor
open Go.Ev
theorem getD_set_ne {xs:List Nat} {i j v:Nat} (h:j≠i):(xs.set i v).getD j 0=xs.getD j 0:=by
 rw[List.getD_eq_getElem?_getD,List.getD_eq_getElem?_getD,List.getElem?_set_ne (fun e=>h e.symm)]
theorem limb_mul {v w:Nat} (hv:v<4294967296) (hw:w<4294967296):v*w<=18446744065119617025:=
 Nat.le_trans (Nat.mul_le_mul (show v<=4294967295 by omega) (show w<=4294967295 by omega)) (by decide)
theorem nat_Mul (xs ys:List Nat) (hx:okL xs) (hy:okL ys) (hl:xs.length<=1073741824) (hm:ys.length<=1073741824) :
  Go.Ev.Fn CX 149 [natV xs,natV ys] (natV (lim (wth xs*wth ys))):=by
 refine fni Tryz.f149 ?_;unfold Tryz.f149;simp only[Option.get!_some]
 have lx:=lim_length_le hx
 have ly:=lim_length_le hy
 repeat (first|simp only[go_sem]|simp (disch:=first|exact oa|fail) only[AX]|refine wki ?_|refine wqn ?_|refine vpx [] ?_)
 refine vf_of (nat_trim xs hx (by omega)) ?_;repeat (first|simp only[go_sem]|simp (disch:=first|exact oa|fail) only[AX]|refine wki ?_|refine wqn ?_|refine vpx [] ?_)
 refine vf_of (nat_trim ys hy (by omega)) ?_;repeat (first|simp only[go_sem]|simp (disch:=first|exact oa|fail) only[AX]|refine wki ?_|refine wqn ?_|refine vpx [] ?_)
 have ha:=okL_lim (wth xs)
 have hb:=okL_lim (wth ys)
 have va:=wth_lim (wth xs)
 have vb:=wth_lim (wth ys)
 generalize lim (wth xs)=a at *
 generalize lim (wth ys)=b at *
 refine vp_loop_inv (fun s'=>s'.tmp 0 = .sv (natV a)/\s'.tmp 1 = .sv (natV b)/\s'.tmp 5 = .ref 20 0 1 0 (a.length+b.length)/\s'.tmp 21 = .sv (natV a)/\s'.tmp 22 = .sv (.int .i64 a.length) /\
   ∃c:List Nat,∃i:Nat,s'.obj 20 0=some (c.map limb)/\s'.tmp 23 = .sv (.int .i64 i)/\c.length=a.length+b.length/\okL c/\i<=a.length /\
    wth (c.take (i+b.length))=wth (a.take i)*wth b)
  (fun s=>match s.tmp 23 with | .sv (.int _ i)=>a.length-i.toNat|_=>0) ?_ ?_
 ·refine⟨rfl,rfl,rfl,rfl,rfl,List.replicate (a.length+b.length) 0,0,rfl,rfl,List.length_replicate ..,okL_replicate _,by omega,?_⟩
  rw[List.take_replicate,wth_replicate];simp[wth]
 rintro s' ⟨i0,i1,i5,i21,i22,c0,i,iO,i23,hc0,hok0,hi,hv⟩
 by_cases hend:i=a.length
 ·subst hend
  repeat (first|simp only[go_sem,i0,i1,i5,i21,i22,iO,i23]|simp (disch:=first|exact oa|fail) only[AX,i0,i1,i5,i21,i22,iO,i23]|refine wki ?_|refine wqn ?_|refine vpx [] ?_)
  refine vf_of (fn_natV (nat_trim c0 hok0 (by omega)) hc0) ?_;repeat (first|simp only[go_sem]|simp (disch:=first|exact oa|fail) only[AX]|refine wki ?_|refine wqn ?_|refine vpx [] ?_)
  have e:wth c0=wth xs*wth ys:=by
   rw[List.take_of_length_le (by omega),List.take_of_length_le (Nat.le_refl _),va,vb]at hv
   exact hv
  rw[e]
 ·have h1:=getD_lt ha i
  repeat (first|simp only[go_sem,i0,i1,i5,i21,i22,iO,i23]|simp (disch:=first|exact oa|fail) only[AX,i0,i1,i5,i21,i22,iO,i23]|refine wki ?_|refine wqn ?_|refine vpx [] ?_)
  generalize hvv:a.getD i 0=v at *
  refine vp_loop_inv (fun s'=>s'.tmp 0 = .sv (natV a)/\s'.tmp 1 = .sv (natV b)/\s'.tmp 5 = .ref 20 0 1 0 (a.length+b.length)/\s'.tmp 21 = .sv (natV a)/\s'.tmp 22 = .sv (.int .i64 a.length)/\s'.tmp 23 = .sv (.int .i64 i) /\
    s'.tmp 6 = .sv (.int .i64 i)/\s'.tmp 7 = .sv (.int .u32 v)/\s'.tmp 28 = .sv (natV b)/\s'.tmp 29 = .sv (.int .i64 b.length) /\
    ∃c:List Nat,∃k carry:Nat,s'.obj 20 0=some (c.map limb)/\s'.tmp 30 = .sv (.int .i64 k)/\s'.tmp 8 = .sv (.int .u64 carry)/\c.length=a.length+b.length/\okL c/\k<=b.length/\carry<4294967296 /\
     (∀j,i+k<=j->c.getD j 0=c0.getD j 0)/\wth (c.take (i+k))+4294967296^(i+k)*carry=wth (c0.take (i+k))+4294967296^i*(v*wth (b.take k)))
   (fun s=>match s.tmp 30 with | .sv (.int _ i)=>b.length-i.toNat|_=>0) ?_ ?_
  ·refine⟨i0,i1,i5,i21,i22,i23,rfl,rfl,rfl,rfl,c0,0,0,iO,rfl,rfl,hc0,hok0,by omega,by omega,fun _ _=>rfl,?_⟩
   simp[wth]
  rintro s2 ⟨j0,j1,j5,j21,j22,j23,j6,j7,j28,j29,c,k,carry,jO,j30,j8,hc,hok,hk,hcar,hsame,hw⟩
  by_cases hend2:k=b.length
  ·subst hend2
   repeat (first|simp only[go_sem,j0,j1,j5,j21,j22,j23,j6,j7,j28,j29,jO,j30,j8]|simp (disch:=first|exact oa|fail) only[AX,j0,j1,j5,j21,j22,j23,j6,j7,j28,j29,jO,j30,j8]|refine wki ?_|refine wqn ?_|refine vpx [] ?_)
   refine⟨⟨c.set (i+b.length) carry,i+1,rfl,rfl,by rw[List.length_set];exact hc,okL_set hok _ _ hcar,by omega,?_⟩,by omega⟩
   rw[show i+1+b.length=i+b.length+1 by omega,wth_set_take (by omega),hw,hv,wth_take_succ,hvv,List.take_of_length_le (Nat.le_refl _)]
   rw[Nat.add_mul,Nat.mul_assoc]
  ·have h2:=getD_lt hb k
   have h3:=getD_lt hok (i+k)
   have h4:=limb_mul h1 h2
   have hs:=hsame (i+k) (Nat.le_refl _)
   generalize hww:b.getD k 0=w at *
   generalize hu:c.getD (i+k) 0=u at *
   generalize hp:v*w=p at *
   repeat (first|simp only[go_sem,j0,j1,j5,j21,j22,j23,j6,j7,j28,j29,jO,j30,j8,hww,hu,hp]|simp (disch:=first|exact oa|fail) only[AX,j0,j1,j5,j21,j22,j23,j6,j7,j28,j29,jO,j30,j8,hww,hu,hp]|refine wki ?_|refine wqn ?_|refine vpx [] ?_)
   refine⟨⟨c.set (i+k) ((carry+(p+u))%4294967296),k+1,(carry+(p+u))/4294967296,rfl,rfl,rfl,by rw[List.length_set];exact hc,okL_set hok _ _ (by omega),by omega,by omega,fun j hj=>(getD_set_ne (by omega)).trans (hsame j (by omega)),?_⟩,by omega⟩
   rw[show i+(k+1)=i+k+1 by omega,wth_set_take (by omega),wth_take_succ c0,<- hs,wth_take_succ b,hww]
   generalize hx:carry+(p+u)=x
   have e1:4294967296^(i+k)*(x%4294967296)+4294967296^(i+k+1)*(x/4294967296)=4294967296^(i+k)*x:=by
    rw[Nat.pow_succ,Nat.mul_assoc,<- Nat.mul_add,Nat.mod_add_div]
   have e2:4294967296^(i+k)*x=4294967296^(i+k)*carry+(4294967296^(i+k)*p+4294967296^(i+k)*u):=by
    rw[<- hx,Nat.mul_add,Nat.mul_add]
   have e3:4294967296^i*(v*(wth (b.take k)+4294967296^k*w))=4294967296^i*(v*wth (b.take k))+4294967296^(i+k)*p:=by
    rw[Nat.mul_add,Nat.mul_add,<- hp,Nat.pow_add,Nat.mul_left_comm v,<- Nat.mul_assoc (4294967296^i) (4294967296^k)]
   rw[e3]
   omega
end Go.Proofs.YtcfjiolldehegaaGreatDoor
namespace Go.Proofs.YtcfjiolldehegaaGreatDoor
open Go.Ev
theorem wth_drop {xs:List Nat} {i:Nat} (h:i<xs.length):wth (xs.drop i)=xs.getD i 0+4294967296*wth (xs.drop (i+1)):=by
 rw[List.drop_eq_getElem_cons h,wth_cons,List.getD_eq_getElem?_getD,List.getElem?_eq_getElem h]
 rfl
theorem wth_set_drop {xs:List Nat} {i:Nat} (h:i<xs.length) (v:Nat):wth ((xs.set i v).drop i)=v+4294967296*wth (xs.drop (i+1)):=by
 rw[wth_drop (by rw[List.length_set];exact h),List.drop_set_of_lt (by omega)]
 simp[List.getD_eq_getElem?_getD,h]
theorem nat_small (xs:List Nat) (b:Nat) (hx:okL xs) (hl:xs.length<=1073741824) (hb0:0<b) (hb:b<4294967296) :
  Go.Ev.Fn CX 182 [natV xs,limb b] (.tup [natV (lim (wth xs/b)),limb (wth xs%b)]):=by
 refine fni Tryz.f182 ?_;unfold Tryz.f182;simp only[Option.get!_some]
 repeat (first|simp only[go_sem]|simp (disch:=first|exact oa|fail) only[AX]|refine wki ?_|refine wqn ?_)
 refine vp_loop_inv (fun s'=>s'.tmp 0 = .sv (natV xs)/\s'.tmp 1 = .sv (limb b)/\s'.tmp 6 = .ref 11 0 1 0 xs.length /\
   ∃q:List Nat,∃i rest:Nat,s'.obj 11 0=some (q.map limb)/\s'.tmp 8 = .sv (.int .i64 ((i:Int)-1))/\s'.tmp 7 = .sv (limb rest)/\q.length=xs.length/\okL q/\i<=xs.length/\rest<b /\
    wth (xs.drop i)=b*wth (q.drop i)+rest)
  (fun s=>match s.tmp 8 with | .sv (.int _ i)=>(i+1).toNat|_=>0) ?_ ?_
 ·refine⟨rfl,rfl,rfl,List.replicate xs.length 0,xs.length,0,rfl,rfl,rfl,List.length_replicate ..,okL_replicate _,by omega,hb0,?_⟩
  rw[List.drop_length,List.drop_of_length_le (by simp)]
  simp[wth]
 rintro s' ⟨i0,i1,i6,q,i,rest,iO,i8,i7,hq,hok,hi,hrest,hv⟩
 rcases Nat.eq_zero_or_pos i with rfl|hi0
 ·repeat (first|simp only[go_sem,i0,i1,i6,iO,i8,i7]|simp (disch:=first|exact oa|fail) only[AX,i0,i1,i6,iO,i8,i7]|refine wki ?_|refine wqn ?_|refine vpx [] ?_)
  rw[List.drop_zero,List.drop_zero]at hv
  have e1:wth xs/b=wth q:=by
   rw[hv,Nat.mul_add_div hb0,Nat.div_eq_of_lt hrest,Nat.add_zero]
  have e2:wth xs%b=rest:=by
   rw[hv,Nat.mul_add_mod,Nat.mod_eq_of_lt hrest]
  refine vf_of (fn_natV (nat_trim q hok (by omega)) hq) ?_;repeat (first|simp only[go_sem,i0,i1,i6,iO,i8,i7]|simp (disch:=first|exact oa|fail) only[AX,i0,i1,i6,iO,i8,i7]|refine wki ?_|refine wqn ?_|refine vpx [] ?_)
  rw[e1,e2]
  exact⟨rfl,rfl⟩
 ·have h1:=getD_lt hx (i-1)
  have h5:(((i-1:Nat):Int))=(i:Int)-1:=by omega
  repeat (first|simp only[go_sem,i0,i1,i6,iO,i8,i7]|simp (disch:=first|exact oa|fail) only[AX,i0,i1,i6,iO,i8,i7]|refine wki ?_|refine wqn ?_|refine vpx [] ?_)
  have hq0:(rest*4294967296+xs.getD (i-1) 0)/b<4294967296:=by
   rw[Nat.div_lt_iff_lt_mul hb0]
   have:(rest+1)*4294967296<=b*4294967296:=Nat.mul_le_mul_right _ hrest
   omega
  have hr0:=Nat.mod_lt (rest*4294967296+xs.getD (i-1) 0) hb0
  refine vf_of (bits_Div32 rest (xs.getD (i-1) 0) b hrest hb h1) ?_;repeat (first|simp only[go_sem,i0,i1,i6,iO,i8,i7]|simp (disch:=first|exact oa|fail) only[AX,i0,i1,i6,iO,i8,i7]|refine wki ?_|refine wqn ?_|refine vpx [] ?_)
  refine⟨⟨q.set (i-1) ((rest*4294967296+xs.getD (i-1) 0)/b),i-1,(rest*4294967296+xs.getD (i-1) 0)%b,rfl,rfl,rfl,by rw[List.length_set];exact hq,okL_set hok _ _ hq0,by omega,hr0,?_⟩,by omega⟩
  rw[wth_set_drop (by omega),wth_drop (by omega),show i-1+1=i by omega,hv]
  have e1:=Nat.div_add_mod (rest*4294967296+xs.getD (i-1) 0) b
  generalize (rest*4294967296+xs.getD (i-1) 0)/b=Q at *
  generalize (rest*4294967296+xs.getD (i-1) 0)%b=R at *
  rw[Nat.mul_add b,<- Nat.mul_assoc b,Nat.mul_comm b 4294967296,Nat.mul_assoc]
  omega
end Go.Proofs.YtcfjiolldehegaaGreatDoor
namespace Go.Proofs.YtcfjiolldehegaaGreatDoor
open Go.Ev
def guessN (u v:Nat):Nat:=min 4294967295 (u/v)
theorem guess_le (u v:Nat):guessN u v<=4294967295:=Nat.min_le_left _ _
theorem guess_ge {u v q:Nat} (hv:0<v) (hq:q<=4294967295) (h:q*v<=u):q<=guessN u v:=
 Nat.le_min.2 ⟨hq,(Nat.le_div_iff_mul_le hv).2 h⟩
theorem guess_lt {u v q:Nat} (hv:0<v) (h:u<q*v):guessN u v<=q-1:=
 Nat.le_trans (Nat.min_le_right _ _) (Nat.le_sub_one_of_lt ((Nat.div_lt_iff_lt_mul hv).2 h))
theorem guess_parts {q r b1 b2 X low U V:Nat} (hU:X*4294967296+low=U) (hV:b1*4294967296+b2=V) (e:q*b1+r=X) :
  q*V+(r*4294967296+low)=U+q*b2:=by
 subst hU hV e
 rw[Nat.mul_add,Nat.add_mul,<- Nat.mul_assoc]
 generalize q*b1=a
 generalize q*b2=b
 omega
theorem guess_first {b1 b2 X low U V Q R:Nat} (hU:X*4294967296+low=U) (hV:b1*4294967296+b2=V) (hlo:low<4294967296) (hV0:0<V) (hQR:b1*Q+R=X) (hR:R<b1):guessN U V<=Q:=by
 refine guess_lt (q:=Q+1) hV0 ?_
 have e:=guess_parts (q:=Q) (r:=R) hU hV (by rw[Nat.mul_comm];exact hQR)
 rw[Nat.add_mul]
 generalize Q*V=a at *
 generalize Q*b2=b at *
 generalize b1*Q=c at *
 omega
theorem guess_step {q r b1 X:Nat} (e:q*b1+r=X) (h:1<=q):(q-1)*b1+(r+b1)=X:=by
 obtain⟨q',rfl⟩ : ∃q',q=q'+1:=⟨q-1,by omega⟩
 rw[Nat.add_sub_cancel]
 rw[Nat.add_mul,Nat.one_mul]at e
 omega
theorem guess_end {q r b1 b2 X low U V:Nat} (hU:X*4294967296+low=U) (hV:b1*4294967296+b2=V) (hV0:0<V) (hb2:b2<4294967296) (e:q*b1+r=X) (hq:q<=4294967295)
  (h:4294967296<=r\/q*b2<=r*4294967296+low):q<=guessN U V:=by
 refine guess_ge hV0 hq ?_
 have e1:=guess_parts hU hV e
 have h6:q*b2<=18446744065119617025:=limb_mul (by omega) hb2
 generalize q*V=a at *
 generalize q*b2=b at *
 omega
theorem guess_more {q r b1 b2 X low U V:Nat} (hU:X*4294967296+low=U) (hV:b1*4294967296+b2=V) (hV0:0<V) (e:q*b1+r=X)
  (h:r*4294967296+low<q*b2):guessN U V<=q-1:=by
 refine guess_lt hV0 ?_
 have e1:=guess_parts hU hV e
 generalize q*V=a at *
 generalize q*b2=b at *
 omega
theorem guess_small {q r b1 X high mid:Nat} (hX:high*4294967296+mid=X) (h1:high<=b1) (hm:mid<4294967296) (e:q*b1+r=X) (hr:4294967296<=r):q<=4294967295:=by
 rcases Nat.lt_or_ge 4294967295 q with h3|h3
 ·have h4:4294967296*b1<=q*b1:=Nat.mul_le_mul_right _ h3
  generalize q*b1=a at *
  omega
 ·exact h3
theorem guess_fn (high mid low b1 b2:Nat) (h1:high<=b1) (hb:b1<4294967296) (hb':2147483648<=b1) (hm:mid<4294967296) (hlo:low<4294967296) (hb2:b2<4294967296) :
  Go.Ev.Fn CX 322 [limb high,limb mid,limb low,limb b1,limb b2] (.int .u64 (guessN ((high*4294967296+mid)*4294967296+low) (b1*4294967296+b2))):=by
 refine fni Tryz.f322 ?_;unfold Tryz.f322;simp only[Option.get!_some]
 have hX : ∃X,high*4294967296+mid=X:=⟨_,rfl⟩
 obtain⟨X,hX⟩:=hX
 have hX1:X<18446744073709551616:=by omega
 rw[hX]
 have hU : ∃U,X*4294967296+low=U:=⟨_,rfl⟩
 obtain⟨U,hU⟩:=hU
 have hV : ∃V,b1*4294967296+b2=V:=⟨_,rfl⟩
 obtain⟨V,hV⟩:=hV
 have hV0:0<V:=by omega
 rw[hU,hV]
 have hq0:X/b1<=4294967297:=by
  have h:X<4294967298*b1:=by omega
  exact Nat.le_of_lt_succ ((Nat.div_lt_iff_lt_mul (k:=b1) (by omega)).2 h)
 have hr0:X%b1<b1:=Nat.mod_lt _ (by omega)
 have hqr:=Nat.div_add_mod X b1
 generalize hQ:X/b1=Q at *
 generalize hR:X%b1=R at *
 have hT0:=guess_first hU hV hlo hV0 hqr hr0
 have hT1:=guess_le U V
 generalize hT:guessN U V=T at *
 repeat (first|simp only[go_sem,hX,hQ,hR]|simp (disch:=first|exact oa|fail) only[AX,hX,hQ,hR]|refine wki ?_|refine wqn ?_|refine vpx [] ?_)
 refine vp_loop_inv (fun s'=>s'.tmp 2 = .sv (limb low)/\s'.tmp 3 = .sv (limb b1)/\s'.tmp 4 = .sv (limb b2) /\
   ∃q r:Nat,s'.tmp 12 = .sv (.int .u64 q)/\s'.tmp 13 = .sv (.int .u64 r)/\q*b1+r=X/\r<4294967296/\T<=q/\q<=4294967297)
  (fun s=>match s.tmp 12 with | .sv (.int _ i)=>i.toNat|_=>0) ?_ ?_
 ·exact⟨rfl,rfl,rfl,Q,R,rfl,rfl,by rw[Nat.mul_comm];exact hqr,by omega,hT0,hq0⟩
 rintro s' ⟨i2,i3,i4,q,r,i12,i13,e,hr,hTq,hq⟩
 have fin:1<=q->4294967296<=r+b1->T<=q-1->q-1=T:=by
  intro hq1 hrB hl
  have e2:=guess_step e hq1
  have:=guess_end hU hV hV0 hb2 e2 (guess_small hX h1 hm e2 hrB) (.inl hrB)
  rw[hT]at this
  omega
 by_cases hqB:4294967296<=q
 ·have e2:=guess_step e (by omega)
  by_cases hrB:4294967296<=r+b1
  ·have h5:=fin (by omega) hrB (by omega)
   clear fin e e2 hU hV hqr
   repeat (first|simp only[go_sem,i2,i3,i4,i12,i13]|simp (disch:=first|exact oa|fail) only[AX,i2,i3,i4,i12,i13]|refine wki ?_|refine wqn ?_|refine vpx [] ?_)
   rw[h5]
  ·clear fin e hU hV hqr
   repeat (first|simp only[go_sem,i2,i3,i4,i12,i13]|simp (disch:=first|exact oa|fail) only[AX,i2,i3,i4,i12,i13]|refine wki ?_|refine wqn ?_|refine vpx [] ?_)
   exact⟨⟨q-1,r+b1,rfl,rfl,e2,by omega,by omega,by omega⟩,by omega⟩
 ·have hp:q*b2<=18446744065119617025:=limb_mul (by omega) hb2
  have hub':=guess_end hU hV hV0 hb2 e (by omega)
  have hlb':=guess_more hU hV hV0 e
  rw[hT]at hub' hlb'
  generalize hP:q*b2=P at *
  have hC : ∃C,r*4294967296+low=C:=⟨_,rfl⟩
  obtain⟨C,hC⟩:=hC
  have hj:bitsSV .or .u64 ((r*4294967296:Nat):Int) (low:Int)=some (.int .u64 (C:Int)):=by
   rw[b_join (by omega) hlo,hC]
  rw[hC]at hub' hlb'
  by_cases hc:C<P
  ·have hq1:1<=q:=by
    rcases Nat.eq_zero_or_pos q with rfl|h
    ·rw[Nat.zero_mul]at hP;omega
    ·exact h
   have hl:=hlb' hc
   have e2:=guess_step e hq1
   by_cases hrB:4294967296<=r+b1
   ·have h5:=fin hq1 hrB hl
    clear fin hub' hlb' e e2 hU hV hqr hC
    repeat (first|simp only[go_sem,i2,i3,i4,i12,i13,hP,hj]|simp (disch:=first|exact oa|fail) only[AX,i2,i3,i4,i12,i13,hP,hj]|refine wki ?_|refine wqn ?_|refine vpx [] ?_)
    rw[h5]
   ·clear fin hub' hlb' e hU hV hqr hC
    repeat (first|simp only[go_sem,i2,i3,i4,i12,i13,hP,hj]|simp (disch:=first|exact oa|fail) only[AX,i2,i3,i4,i12,i13,hP,hj]|refine wki ?_|refine wqn ?_|refine vpx [] ?_)
    exact⟨⟨q-1,r+b1,rfl,rfl,e2,by omega,by omega,by omega⟩,by omega⟩
  ·have h5:=hub' (.inr (by omega))
   clear fin hub' hlb' e hU hV hqr hC
   repeat (first|simp only[go_sem,i2,i3,i4,i12,i13,hP,hj]|simp (disch:=first|exact oa|fail) only[AX,i2,i3,i4,i12,i13,hP,hj]|refine wki ?_|refine wqn ?_|refine vpx [] ?_)
   rw[Nat.le_antisymm h5 hTq]
end Go.Proofs.YtcfjiolldehegaaGreatDoor
namespace Go.Proofs.YtcfjiolldehegaaGreatDoor
open Go.Ev
def blen (x:Nat):Nat:=if x=0 then 0 else x.log2+1
def tabOk (s:ByteArray):Bool:=(List.range 256).all fun i=>match s[i]? with
 |some b=>b.toNat==blen i
 |none=>false
theorem vo_index_tab {C:Cx} {soft:Bool} {ops:Array Oper} {l:List Oper} {st:St} {Q:St->Prop} {dst:Option Nat} {ty t:TypeId} {pos:String} {af:Array Edge} {s:ByteArray} {x:Operand} {k:IntKind} {i:Nat}
  (hu:C.P.underlying t=some .string) (hs:tabOk s=true) (hx:st.eval x = .sv (.int k (i:Int))) (hi:i<256) (h:WO C soft ops l (st.putO dst (.sv (.int .u8 (blen i:Nat)))) Q) :
  WO C soft ops (⟨dst,.index t (.const (.string s)) x,ty,pos,af,none⟩::l) st Q:=by
 rw[vo_index]
 have h1:=List.all_eq_true.1 hs i (List.mem_range.2 hi)
 have e:val C.P st (.index t (.const (.string s)) x)=some (.sv (.int .u8 (blen i:Nat))):=by
  have e0:st.eval (.const (.string s)) = .sv (.str s):=rfl
  simp only[val,hx,e0,natTV,hu]
  rw[if_pos (by omega)]
  simp only[Int.toNat_natCast]
  split at h1
  ·rename_i b hb
   rw[hb]
   simp only
   rw[<- eq_of_beq h1]
  ·cases h1
 rw[e]
 exact h
theorem blen_shift {x k:Nat} (h:2^k<=x):blen x=k+blen (x/2^k):=by
 have hp:0<2^k:=Nat.pow_pos (by omega)
 have h0:x≠0:=by omega
 have h1:x/2^k≠0:=by
  have:=Nat.div_pos h hp
  omega
 unfold blen
 rw[if_neg h0,if_neg h1]
 have e:x.log2=k+(x/2^k).log2:=by
  have h2:=(Nat.le_log2 h0).2 h
  refine(Nat.log2_eq_iff h0).2 ⟨?_,?_⟩
  ·have:=Nat.log2_self_le h1
   rw[Nat.pow_add]
   calc 2^k*2^(x/2^k).log2<=2^k*(x/2^k):=Nat.mul_le_mul_left _ this
    _<=x:=Nat.mul_div_le _ _
  ·have:=Nat.lt_log2_self (n:=x/2^k)
   rw[Nat.div_lt_iff_lt_mul hp]at this
   rw[show k+(x/2^k).log2+1=(x/2^k).log2+1+k by omega,Nat.pow_add]
   exact this
 omega
theorem blen_le {x k:Nat} (h:x<2^k):blen x<=k:=by
 unfold blen
 split
 ·omega
 ·rename_i h0
  have:=(Nat.log2_lt h0).2 h
  omega
theorem bits_Len32 (x:Nat) (hx:x<4294967296):Go.Ev.Fn CX 150 [limb x] (.int .i64 (blen x:Nat)):=by
 refine fni Tryz.f150 ?_;unfold Tryz.f150;simp only[Option.get!_some]
 repeat (first|simp only[go_sem]|simp (disch:=first|exact oa|fail) only[AX]|refine wki ?_|refine wqn ?_|refine vpx [] ?_)
 refine vc_cut (Mid:=fun s => ∃y m:Nat,s.tmp 0 = .sv (limb y)/\s.tmp 2 = .sv (.int .i64 m)/\blen x=m+blen y/\y<65536/\m<=16) ?_ ?_
 ·by_cases h:65536<=x
  ·repeat (first|simp only[go_sem]|simp (disch:=first|exact oa|fail) only[AX]|refine wki ?_|refine wqn ?_|refine vpx [] ?_)
   exact⟨x/65536,16,rfl,rfl,blen_shift (k:=16) h,by omega,by omega⟩
  ·repeat (first|simp only[go_sem]|simp (disch:=first|exact oa|fail) only[AX]|refine wki ?_|refine wqn ?_|refine vpx [] ?_)
   exact⟨x,0,rfl,rfl,by omega,by omega,by omega⟩
 rintro s ⟨y,m,g0,g2,hb,hy,hm⟩
 repeat (first|simp only[go_sem,g0,g2]|simp (disch:=first|exact oa|fail) only[AX,g0,g2]|refine wki ?_|refine wqn ?_|refine vpx [] ?_)
 refine vc_cut (Mid:=fun s => ∃y m:Nat,s.tmp 0 = .sv (limb y)/\s.tmp 2 = .sv (.int .i64 m)/\blen x=m+blen y/\y<256/\m<=24) ?_ ?_
 ·by_cases h:256<=y
  ·repeat (first|simp only[go_sem,g0,g2]|simp (disch:=first|exact oa|fail) only[AX,g0,g2]|refine wki ?_|refine wqn ?_|refine vpx [] ?_)
   exact⟨y/256,m+8,rfl,rfl,by rw[hb,blen_shift (k:=8) h,Nat.add_assoc],by omega,by omega⟩
  ·repeat (first|simp only[go_sem,g0,g2]|simp (disch:=first|exact oa|fail) only[AX,g0,g2]|refine wki ?_|refine wqn ?_|refine vpx [] ?_)
   exact⟨y,m,rfl,rfl,hb,by omega,by omega⟩
 clear g0 g2 hb hy hm
 rintro s ⟨y,m,g0,g2,hb,hy,hm⟩
 repeat (first|simp only[go_sem,g0,g2]|simp (disch:=first|exact oa|fail) only[AX,g0,g2]|refine wki ?_|refine wqn ?_|refine vpx [] ?_)
 refine vo_index_tab (i:=y) (by kernel_rfl) (by kernel_rfl) rfl hy ?_
 have hbl:blen y<=8:=blen_le (k:=8) hy
 repeat (first|simp only[go_sem,g0,g2]|simp (disch:=first|exact oa|fail) only[AX,g0,g2]|refine wki ?_|refine wqn ?_|refine vpx [] ?_)
 rw[hb]
theorem bits_LeadingZeros32 (x:Nat) (hx:x<4294967296):Go.Ev.Fn CX 321 [limb x] (.int .i64 ((32-blen x:Nat):Int)):=by
 refine fni Tryz.f321 ?_;unfold Tryz.f321;simp only[Option.get!_some]
 have hbl:blen x<=32:=blen_le (k:=32) hx
 repeat (first|simp only[go_sem]|simp (disch:=first|exact oa|fail) only[AX]|refine wki ?_|refine wqn ?_|refine vpx [] ?_)
 refine vf_of (bits_Len32 x hx) ?_;repeat (first|simp only[go_sem]|simp (disch:=first|exact oa|fail) only[AX]|refine wki ?_|refine wqn ?_|refine vpx [] ?_)
 rw[Int.natCast_sub hbl]
 rfl
end Go.Proofs.YtcfjiolldehegaaGreatDoor
namespace Go.Proofs.YtcfjiolldehegaaGreatDoor
open Go.Ev
def seg (c:List Nat) (i k:Nat):Nat:=wth ((c.drop i).take k)
theorem seg_zero (c:List Nat) (i:Nat):seg c i 0=0:=by simp[seg,wth]
theorem seg_succ (c:List Nat) (i k:Nat):seg c i (k+1)=seg c i k+4294967296^k*c.getD (i+k) 0:=by
 unfold seg
 rw[wth_take_succ]
 congr 2
 simp[List.getD_eq_getElem?_getD,List.getElem?_drop]
theorem seg_set_ge (c:List Nat) {i k j v:Nat} (h:i+k<=j):seg (c.set j v) i k=seg c i k:=by
 unfold seg
 congr 1
 refine List.ext_getElem? fun n => ?_
 rw[List.getElem?_take,List.getElem?_take]
 split
 ·rw[List.getElem?_drop,List.getElem?_drop,List.getElem?_set_ne (by omega)]
 ·rfl
theorem seg_lt {c:List Nat} (h:okL c) (i k:Nat):seg c i k<4294967296^k:=by
 unfold seg
 have h1:=wth_lt (okL_take (okL_drop h i) k)
 refine Nat.lt_of_lt_of_le h1 (Nat.pow_le_pow_right (by omega) ?_)
 rw[List.length_take]
 exact Nat.min_le_left _ _
theorem seg_set_self (c:List Nat) {i k v:Nat} (h:i+k<c.length):seg (c.set (i+k) v) i (k+1)=seg c i k+4294967296^k*v:=by
 rw[seg_succ,seg_set_ge c (Nat.le_refl _),getD_set_self h]
theorem exp_takes {s:St} {cs ds:List SV} {o1 n1 o2 n2:Nat} {x:SV}:expOf s [.impref cs 1 o1 n1,.impref ds 1 o2 n2,.sv x]=[s.obj 1000000 0,s.obj 1000001 0,none]:=rfl
theorem sub_limb {u y w:Nat} (hu:u<4294967296) (hy:y<4294967296) (hw:w<=1) :
  ((u+(4294967296-y))%4294967296+(4294967296-w))%4294967296+y+w=u+4294967296*(if u<y+w then 1 else 0):=by
 split<;>omega
def Takes (us ds:List Nat) (i x:Nat) (us':List Nat) (b:Bool):Prop:=
 us'.length=us.length/\okL us'/\(∀j,j<i\/i+ds.length<j->us'.getD j 0=us.getD j 0) /\
  (x*wth ds<=seg us i (ds.length+1)->b=false/\seg us' i (ds.length+1)+x*wth ds=seg us i (ds.length+1)) /\
  (seg us i (ds.length+1)<x*wth ds->x*wth ds<=seg us i (ds.length+1)+wth ds->b=true/\seg us' i (ds.length+1)+x*wth ds=seg us i (ds.length+1)+wth ds)
theorem takes_fn (us ds:List Nat) (i x:Nat) (hu:okL us) (hd:okL ds) (hi:i+ds.length<us.length) (hul:us.length<=2147483648) (hx:x<=4294967295) :
  ∃r exps,(∃us' b,Takes us ds i x us' b/\r = .bool b/\exps=[some (us'.map limb),some (ds.map limb),none]) /\
   FnI CX 323 [.impref (us.map limb) 1 i (ds.length+1),.impref (ds.map limb) 1 0 ds.length,.sv (.int .u64 x)] r exps:=by
 refine FnI_of (fn:=Tryz.f323) (body:=(Tryz.f323).body.get!) (by kernel_rfl) (by kernel_rfl) (by kernel_rfl) (fun _=>rfl) (Nat.le_of_ble_eq_true (by kernel_rfl)) ?_
 unfold Tryz.f323
 simp only[Option.get!_some,exp_takes]
 repeat (first|simp only[go_sem,N0]|simp (disch:=first|exact oa|fail) only[AX,N0]|refine wki ?_|refine wqn ?_)
 refine vp_loop_inv (fun s'=>s'.tmp 0 = .ref 1000000 0 1 i (ds.length+1)/\s'.tmp 1 = .ref 1000001 0 1 0 ds.length/\s'.tmp 2 = .sv (.int .u64 x)/\s'.obj 1000001 0=some (ds.map limb)/\s'.tmp 14 = .ref 1000001 0 1 0 ds.length/\s'.tmp 15 = .sv (.int .i64 ds.length) /\
   ∃c:List Nat,∃k carry w:Nat,s'.obj 1000000 0=some (c.map limb)/\s'.tmp 16 = .sv (.int .i64 k)/\s'.tmp 7 = .sv (.int .u64 carry)/\s'.tmp 8 = .sv (limb w)/\c.length=us.length/\okL c/\k<=ds.length/\carry<4294967296/\w<=1 /\
    (∀j,j<i\/i+k<=j->c.getD j 0=us.getD j 0)/\seg c i k+x*wth (ds.take k)=seg us i k+4294967296^k*(carry+w))
  (fun s=>match s.tmp 16 with | .sv (.int _ i)=>ds.length-i.toNat|_=>0) ?_ ?_
 ·refine⟨rfl,rfl,rfl,rfl,rfl,rfl,us,0,0,0,rfl,rfl,rfl,rfl,rfl,hu,by omega,by omega,by omega,fun _ _=>rfl,?_⟩
  simp[seg_zero,wth]
 rintro s' ⟨i0,i1,i2,iD,i14,i15,c,k,carry,w,iO,i16,i7,i8,hc,hok,hk,hcar,hw,hsame,hv⟩
 have e10:(1000001:Nat)≠1000000:=by decide
 by_cases hend:k=ds.length
 ·subst hend
  have h2:=getD_lt hok (i+ds.length)
  have hs0:=hsame (i+ds.length) (.inr (Nat.le_refl _))
  rw[List.take_of_length_le (Nat.le_refl _)]at hv
  generalize huk:c.getD (i+ds.length) 0=u at *
  have hsl:=sub_limb h2 hcar hw
  repeat (first|simp only[go_sem,i0,i1,i2,iD,i14,i15,iO,i16,i7,i8,huk]|simp (disch:=first|exact oa|fail) only[AX,i0,i1,i2,iD,i14,i15,iO,i16,i7,i8,huk]|refine wki ?_|refine wqn ?_|refine vpx [] ?_)
  refine vf_of (bits_Sub32 u carry w h2 hcar hw) ?_;repeat (first|simp only[go_sem,i0,i1,i2,iD,i14,i15,iO,i16,i7,i8,huk]|simp (disch:=first|exact oa|fail) only[AX,i0,i1,i2,iD,i14,i15,iO,i16,i7,i8,huk]|refine wki ?_|refine wqn ?_|refine vpx [] ?_)
  have hv' : ∃v,((u+(4294967296-carry))%4294967296+(4294967296-w))%4294967296=v:=⟨_,rfl⟩
  obtain⟨v,hvv⟩:=hv'
  have hvl:v<4294967296:=by rw[<- hvv];exact Nat.mod_lt _ (by omega)
  rw[hvv]at hsl ⊢
  have hE:seg (c.set (i+ds.length) v) i (ds.length+1)+x*wth ds=seg us i (ds.length+1)+4294967296^(ds.length+1)*(if u<carry+w then 1 else 0):=by
   rw[seg_set_self c (by omega),seg_succ us,<- hs0]
   generalize (if u<carry+w then 1 else 0)=w' at *
   have e1:4294967296^ds.length*(carry+w)+4294967296^ds.length*v=4294967296^ds.length*u+4294967296^(ds.length+1)*w':=by
    rw[Nat.pow_succ,Nat.mul_assoc,<- Nat.mul_add,<- Nat.mul_add]
    congr 1
    omega
   omega
  have hc1:(c.set (i+ds.length) v).length=us.length:=by rw[List.length_set];exact hc
  have hok1:okL (c.set (i+ds.length) v):=okL_set hok _ _ hvl
  have hsame1 : ∀j,j<i\/i+ds.length<j->(c.set (i+ds.length) v).getD j 0=us.getD j 0:=fun j hj=>(getD_set_ne (by omega)).trans (hsame j (by omega))
  generalize hc1':c.set (i+ds.length) v=c1 at *
  by_cases hb:u<carry+w
  ·rw[if_pos hb]at hE ⊢
   have hgt:seg us i (ds.length+1)<x*wth ds:=by
    have:=seg_lt hok1 i (ds.length+1)
    omega
   clear hv hsl hs0 hb huk hvv hvl hsame hok hc
   repeat (first|simp only[go_sem,i0,i1,i2,iD,i14,i15,iO,i16,i7,i8]|simp (disch:=first|exact oa|fail) only[AX,i0,i1,i2,iD,i14,i15,iO,i16,i7,i8]|refine wki ?_|refine wqn ?_|refine vpx [] ?_)
   refine vp_loop_inv (fun s'=>s'.tmp 0 = .ref 1000000 0 1 i (ds.length+1)/\s'.tmp 1 = .ref 1000001 0 1 0 ds.length/\s'.obj 1000001 0=some (ds.map limb)/\s'.tmp 62 = .ref 1000001 0 1 0 ds.length/\s'.tmp 63 = .sv (.int .i64 ds.length) /\
     ∃c2:List Nat,∃k more:Nat,s'.obj 1000000 0=some (c2.map limb)/\s'.tmp 64 = .sv (.int .i64 k)/\s'.tmp 11 = .sv (limb more)/\c2.length=us.length/\okL c2/\k<=ds.length/\more<=1 /\
      (∀j,j<i\/i+k<=j->c2.getD j 0=c1.getD j 0)/\seg c2 i k+4294967296^k*more=seg c1 i k+wth (ds.take k))
    (fun s=>match s.tmp 64 with | .sv (.int _ i)=>ds.length-i.toNat|_=>0) ?_ ?_
   ·refine⟨i0,i1,iD,rfl,rfl,c1,0,0,rfl,rfl,rfl,hc1,hok1,by omega,by omega,fun _ _=>rfl,?_⟩
    ·simp[seg_zero,wth]
   clear i0 i1 i2 iD i14 i15 iO i16 i7 i8
   rintro s2 ⟨j0,j1,jD,j62,j63,c2,k,more,jO,j64,j11,hc2,hok2,hk2,hmore,hsame2,hv2⟩
   by_cases hend2:k=ds.length
   ·subst hend2
    have h3:=getD_lt hok2 (i+ds.length)
    have hs2:=hsame2 (i+ds.length) (.inr (Nat.le_refl _))
    rw[List.take_of_length_le (Nat.le_refl _)]at hv2
    generalize hak:c2.getD (i+ds.length) 0=a at *
    have hv' : ∃m,(a+more)%4294967296=m:=⟨_,rfl⟩
    obtain⟨m,hm⟩:=hv'
    have hml:m<4294967296:=by rw[<- hm];exact Nat.mod_lt _ (by omega)
    have hmd:m+4294967296*((a+more)/4294967296)=a+more:=by rw[<- hm];omega
    have hmq:(a+more)/4294967296<=1:=by omega
    generalize (a+more)/4294967296=q at *
    repeat (first|simp only[go_sem,j0,j1,jD,j62,j63,jO,j64,j11,hak,hm]|simp (disch:=first|exact oa|fail) only[AX,j0,j1,jD,j62,j63,jO,j64,j11,hak,hm]|refine wki ?_|refine wqn ?_|refine vpx [] ?_)
    refine⟨_,_,⟨c2.set (i+ds.length) m,true,⟨by rw[List.length_set];exact hc2,okL_set hok2 _ _ hml,fun j hj=>(getD_set_ne (by omega)).trans ((hsame2 j (by omega)).trans (hsame1 j hj)),fun h=>absurd h (by omega),fun _ hle=>⟨rfl,?_⟩⟩,rfl,rfl⟩,?_,rfl⟩
    ·have hE2:seg (c2.set (i+ds.length) m) i (ds.length+1)+4294967296^(ds.length+1)*q=seg c1 i (ds.length+1)+wth ds:=by
      rw[seg_set_self c2 (by omega),seg_succ c1,<- hs2]
      have e1:4294967296^ds.length*m+4294967296^(ds.length+1)*q=4294967296^ds.length*a+4294967296^ds.length*more:=by
       rw[Nat.pow_succ,Nat.mul_assoc,<- Nat.mul_add,<- Nat.mul_add,hmd]
      omega
     have hlt:=seg_lt (okL_set hok2 (i+ds.length) m hml) i (ds.length+1)
     rcases Nat.eq_zero_or_pos q with rfl|hq
     ·omega
     ·have:q=1:=by omega
      subst this
      omega
    ·rfl
   ·have h1:=getD_lt hd k
    have h2:=getD_lt hok2 (i+k)
    have hs2:=hsame2 (i+k) (.inr (Nat.le_refl _))
    generalize hdk:ds.getD k 0=y at *
    generalize hak:c2.getD (i+k) 0=a at *
    repeat (first|simp only[go_sem,j0,j1,jD,j62,j63,jO,j64,j11,hdk,hak]|simp (disch:=first|exact oa|fail) only[AX,j0,j1,jD,j62,j63,jO,j64,j11,hdk,hak]|refine wki ?_|refine wqn ?_|refine vpx [] ?_)
    refine vf_of (bits_Add32 a y more h2 h1 (by omega)) ?_;repeat (first|simp only[go_sem,j0,j1,jD,j62,j63,jO,j64,j11,hdk,hak]|simp (disch:=first|exact oa|fail) only[AX,j0,j1,jD,j62,j63,jO,j64,j11,hdk,hak]|refine wki ?_|refine wqn ?_|refine vpx [] ?_)
    refine⟨⟨c2.set (i+k) ((a+y+more)%4294967296),k+1,(a+y+more)/4294967296,rfl,rfl,rfl,by rw[List.length_set];exact hc2,okL_set hok2 _ _ (Nat.mod_lt _ (by omega)),by omega,by omega,fun j hj=>(getD_set_ne (by omega)).trans (hsame2 j (by omega)),?_⟩,by omega⟩
    rw[seg_set_self c2 (by omega),seg_succ c1,<- hs2,wth_take_succ,hdk]
    have e1:4294967296^k*((a+y+more)%4294967296)+4294967296^(k+1)*((a+y+more)/4294967296)=4294967296^k*a+(4294967296^k*y+4294967296^k*more):=by
     rw[Nat.pow_succ,Nat.mul_assoc,<- Nat.mul_add,Nat.mod_add_div,<- Nat.mul_add,<- Nat.mul_add,Nat.add_assoc]
    omega
  ·rw[if_neg hb,Nat.mul_zero,Nat.add_zero]at hE
   rw[if_neg hb]
   have hT:Takes us ds i x c1 false:=⟨hc1,hok1,hsame1,fun _=>⟨rfl,hE⟩,fun h=>absurd hE (Nat.ne_of_gt (Nat.lt_of_lt_of_le h (Nat.le_add_left _ _)))⟩
   clear hv hsl hs0 hb huk hvv hvl hsame hok hc hE hc1 hok1 hsame1
   repeat (first|simp only[go_sem,i0,i1,i2,iD,i14,i15,iO,i16,i7,i8]|simp (disch:=first|exact oa|fail) only[AX,i0,i1,i2,iD,i14,i15,iO,i16,i7,i8]|refine wki ?_|refine wqn ?_|refine vpx [] ?_)
   exact⟨_,_,⟨c1,false,hT,rfl,rfl⟩,rfl,rfl⟩
 ·have h1:=getD_lt hd k
  have h2:=getD_lt hok (i+k)
  have h4:=limb_mul (v:=x) (w:=ds.getD k 0) (by omega) h1
  have hs0:=hsame (i+k) (.inr (Nat.le_refl _))
  generalize hdk:ds.getD k 0=y at *
  generalize huk:c.getD (i+k) 0=u at *
  generalize hp:x*y=p at *
  have hP:(carry+p)%4294967296<4294967296:=Nat.mod_lt _ (by omega)
  have hsl:=sub_limb h2 hP hw
  repeat (first|simp only[go_sem,i0,i1,i2,iD,i14,i15,iO,i16,i7,i8,hdk,huk,hp]|simp (disch:=first|exact oa|fail) only[AX,i0,i1,i2,iD,i14,i15,iO,i16,i7,i8,hdk,huk,hp]|refine wki ?_|refine wqn ?_|refine vpx [] ?_)
  refine vf_of (bits_Sub32 u ((carry+p)%4294967296) w h2 hP hw) ?_;repeat (first|simp only[go_sem,i0,i1,i2,iD,i14,i15,iO,i16,i7,i8,hdk,huk,hp]|simp (disch:=first|exact oa|fail) only[AX,i0,i1,i2,iD,i14,i15,iO,i16,i7,i8,hdk,huk,hp]|refine wki ?_|refine wqn ?_|refine vpx [] ?_)
  have hv' : ∃v,((u+(4294967296-(carry+p)%4294967296))%4294967296+(4294967296-w))%4294967296=v:=⟨_,rfl⟩
  obtain⟨v,hvv⟩:=hv'
  have hvl:v<4294967296:=by rw[<- hvv];exact Nat.mod_lt _ (by omega)
  rw[hvv]at hsl ⊢
  refine⟨⟨c.set (i+k) v,k+1,(carry+p)/4294967296,if u<(carry+p)%4294967296+w then 1 else 0,rfl,rfl,rfl,rfl,by rw[List.length_set];exact hc,okL_set hok _ _ hvl,by omega,by omega,by split<;>omega,fun j hj=>(getD_set_ne (by omega)).trans (hsame j (by omega)),?_⟩,by omega⟩
  rw[seg_set_self c (by omega),seg_succ us,<- hs0,wth_take_succ,hdk,Nat.mul_add x,Nat.mul_left_comm x,hp]
  generalize (if u<(carry+p)%4294967296+w then 1 else 0)=w' at *
  have e1:4294967296^k*(carry+w)+(4294967296^k*v+4294967296^k*p)=4294967296^k*u+4294967296^(k+1)*((carry+p)/4294967296+w'):=by
   rw[Nat.pow_succ,Nat.mul_assoc,<- Nat.mul_add,<- Nat.mul_add,<- Nat.mul_add]
   congr 1
   omega
  omega
end Go.Proofs.YtcfjiolldehegaaGreatDoor
namespace Go.Ev
theorem long_guess {B M D U v u x:Nat} (hv:v*M<=D) (hv':D<(v+1)*M) (hu:u*M<=U) (hu':U<(u+1)*M) (hBM:B*M<=D) (hB:0<B) (hUD:U<D*B) (hv0:0<v)
  (hx1:x<=B-1) (hx2:x<=u/v) (hx3 : ∀q,q<=B-1->q<=u/v->q<=x):U/D<=x/\x*D<=U+D:=by
 have hM:0<M:=by
  rcases Nat.eq_zero_or_pos M with h|h
  ·subst h;omega
  ·exact h
 have hD:0<D:=Nat.lt_of_lt_of_le (Nat.mul_pos hB hM) hBM
 constructor
 ·refine hx3 _ ?_ ?_
  ·have:U/D<B:=(Nat.div_lt_iff_lt_mul hD).2 (by rw[Nat.mul_comm];exact hUD)
   omega
  ·rw[Nat.le_div_iff_mul_le hv0]
   have h1:U/D*(v*M)<=U/D*D:=Nat.mul_le_mul_left _ hv
   have h2:U/D*D<=U:=Nat.div_mul_le_self _ _
   have h3:U/D*v*M<(u+1)*M:=by rw[Nat.mul_assoc];omega
   have:=Nat.lt_of_mul_lt_mul_right h3
   omega
 ·have h1:x*v<=u:=(Nat.le_div_iff_mul_le hv0).1 hx2
  have h2:x*D<=x*((v+1)*M):=Nat.mul_le_mul_left _ (Nat.le_of_lt hv')
  have h3:x*((v+1)*M)=x*v*M+x*M:=by rw[Nat.add_mul,Nat.one_mul,Nat.mul_add,Nat.mul_assoc]
  have h4:x*v*M<=u*M:=Nat.mul_le_mul_right _ h1
  have h5:x*M<=B*M:=Nat.mul_le_mul_right _ (by omega)
  omega
theorem long_step {P B D U low W A q us:Nat} (hA:A=D*(P*B*W)+us) (hus:us=U*P+low) (hlow:low<P) (hD:0<D) (hq:q=U/D) :
  A=D*(P*(q+B*W))+((U-q*D)*P+low)/\(U-q*D)*P+low<D*P:=by
 subst hq
 have h1:U-U/D*D=U%D:=by
  have:=Nat.mod_add_div U D
  rw[Nat.mul_comm D]at this
  omega
 rw[h1]
 constructor
 ·have h2:=Nat.mod_add_div U D
  rw[hA,hus]
  have h3:U*P=U%D*P+D*(P*(U/D)):=by
   conv=>lhs;rw[<- h2]
   rw[Nat.add_mul,Nat.mul_assoc,Nat.mul_comm (U/D) P]
  rw[Nat.mul_add P,Nat.mul_add D,h3,Nat.mul_assoc P B W]
  omega
 ·have h2:U%D+1<=D:=Nat.mod_lt _ hD
  have h3:(U%D+1)*P<=D*P:=Nat.mul_le_mul_right _ h2
  rw[Nat.add_mul,Nat.one_mul]at h3
  omega
end Go.Ev
namespace Go.Proofs.YtcfjiolldehegaaGreatDoor
open Go.Ev
theorem tdiv32 (m:Nat):(m:Int).tdiv 32=((m/32:Nat):Int):=_root_.id rfl
theorem tmod32 (m:Nat):(m:Int).tmod 32=((m%32:Nat):Int):=_root_.id rfl
theorem shift_up (xs:List Nat) (m:Nat) (hx:okL xs) (hl:xs.length<=1073741824) (s:Int) (hs:s=(m:Int)) (hm:m<=4096) :
  Go.Ev.Fn CX 232 [natV xs,.int .i64 s] (natV (lim (wth xs*2^m))):=by
 refine fni Tryz.f232 ?_;unfold Tryz.f232;simp only[Option.get!_some]
 have lx:=lim_length_le hx
 subst hs
 have e1:(if (-4096:Int)>(m:Int) then (-4096:Int) else (m:Int))=(m:Int):=if_neg (by omega)
 have e2:(if (4096:Int)<(m:Int) then (4096:Int) else (m:Int))=(m:Int):=if_neg (by omega)
 repeat (first|simp only[go_sem,e1,e2]|simp (disch:=first|exact oa|fail) only[AX,e1,e2]|refine wki ?_|refine wqn ?_|refine vpx [] ?_)
 have ha:=okL_lim (wth xs)
 refine vf_of (nat_trim xs hx (by omega)) ?_;repeat (first|simp only[go_sem,e1,e2,tdiv32,tmod32]|simp (disch:=first|exact oa|fail) only[AX,e1,e2,tdiv32,tmod32]|refine wki ?_|refine wqn ?_)
 refine vpx [0] ?_;repeat (first|simp only[go_sem,tdiv32,tmod32]|simp (disch:=first|exact oa|fail) only[AX,tdiv32,tmod32]|refine wki ?_|refine wqn ?_|refine vpx [] ?_)
 have va:=wth_lim (wth xs)
 generalize lim (wth xs)=a at *
 have h32:m%32<32:=Nat.mod_lt _ (by omega)
 refine vf_rowS (nat_left a (m%32) (a.length+1) ha (by omega) h32 (by omega) (by omega)) ?_
 have e5:(((limN (a.length+1) (wth a*2^(m%32))).map limb).drop 0).take ((a.length+1)*1)=(limN (a.length+1) (wth a*2^(m%32))).map limb:=by
  rw[List.drop_zero,Nat.mul_one,List.take_of_length_le (by rw[List.length_map,limN_length];omega)]
 rw[e5]
 have hr:=okL_limN (a.length+1) (wth a*2^(m%32))
 have hrl:=limN_length (a.length+1) (wth a*2^(m%32))
 have hrv:=wth_limN (a.length+1) (wth a*2^(m%32))
 generalize limN (a.length+1) (wth a*2^(m%32))=r at *
 repeat (first|simp only[go_sem,hrl]|simp (disch:=first|exact oa|fail) only[AX,hrl]|refine wki ?_|refine wqn ?_|refine vpx [] ?_)
 have e6:List.take (m/32+a.length+1) (List.map limb (List.take (m/32) (List.replicate (m/32+a.length+1) 0))++List.map limb r++List.map limb (List.drop (m/32+(a.length+1)) (List.replicate (m/32+a.length+1) 0)))=(List.replicate (m/32) 0++r).map limb:=by
  rw[List.take_replicate,List.drop_replicate,show m/32+a.length+1-(m/32+(a.length+1))=0 by omega,Nat.min_eq_left (by omega),List.replicate_zero,List.map_nil,List.append_nil,<- List.map_append]
  exact List.take_of_length_le (by rw[List.length_map,List.length_append,List.length_replicate];omega)
 rw[e6]
 refine vf_of (fn_natV (nat_trim (List.replicate (m/32) 0++r) (okL_append.2 ⟨okL_replicate _,hr⟩) (by rw[List.length_append,List.length_replicate];omega)) (by rw[List.length_append,List.length_replicate];omega)) ?_;repeat (first|simp only[go_sem]|simp (disch:=first|exact oa|fail) only[AX]|refine wki ?_|refine wqn ?_|refine vpx [] ?_)
 have e7:wth (List.replicate (m/32) 0++r)=wth xs*2^m:=by
  rw[wth_append,wth_replicate,Nat.zero_add,List.length_replicate,hrv,va,Nat.mod_eq_of_lt]
  ·have:(4294967296:Nat)^(m/32)*2^(m%32)=2^m:=by
    rw[show (4294967296:Nat)=2^32 by rfl,<- Nat.pow_mul,<- Nat.pow_add,Nat.div_add_mod]
   rw[<- this,Nat.mul_left_comm]
  ·have h1:=wth_lt ha
   rw[va]at h1
   have h2:(2:Nat)^(m%32)<=2^32:=Nat.pow_le_pow_right (by omega) (by omega)
   rw[Nat.pow_succ]
   exact Nat.lt_of_lt_of_le (Nat.mul_lt_mul_of_pos_right h1 (Nat.pow_pos (by omega))) (Nat.mul_le_mul_left _ h2)
 rw[e7]
end Go.Proofs.YtcfjiolldehegaaGreatDoor
namespace Go.Proofs.YtcfjiolldehegaaGreatDoor
open Go.Ev
theorem shift_down (xs:List Nat) (m:Nat) (hx:okL xs) (hl:xs.length<=1073741824) (s:Int) (hs:s = -(m:Int)) (hm:m<=4096) (hm0:0<m) :
  Go.Ev.Fn CX 232 [natV xs,.int .i64 s] (natV (lim (wth xs/2^m))):=by
 refine fni Tryz.f232 ?_;unfold Tryz.f232;simp only[Option.get!_some]
 have lx:=lim_length_le hx
 have e1:(if (-4096:Int)>s then (-4096:Int) else s)=s:=if_neg (by omega)
 have e2:(if (4096:Int)<s then (4096:Int) else s)=s:=if_neg (by omega)
 have e3:IntKind.i64.wrap (0-s)=(m:Int):=by rw[wI64 (by omega)];omega
 have hs0:decide (s<0)=true:=by simp;omega
 repeat (first|simp only[go_sem,e1,e2,e3]|simp (disch:=first|exact oa|fail) only[AX,e1,e2,e3]|refine wki ?_|refine wqn ?_|refine vpx [] ?_)
 have ha:=okL_lim (wth xs)
 refine vf_of (nat_trim xs hx (by omega)) ?_;repeat (first|simp only[go_sem,e1,e2,e3,tdiv32,tmod32,hs0]|simp (disch:=first|exact oa|fail) only[AX,e1,e2,e3,tdiv32,tmod32,hs0]|refine wki ?_|refine wqn ?_)
 have va:=wth_lim (wth xs)
 generalize lim (wth xs)=a at *
 have hk:m%32<32:=Nat.mod_lt _ (by omega)
 have hpow:2^m=4294967296^(m/32)*2^(m%32):=by
  rw[show (4294967296:Nat)=2^32 by rfl,<- Nat.pow_mul,<- Nat.pow_add,Nat.div_add_mod]
 have hdiv:wth xs/2^m=wth (a.drop (m/32))/2^(m%32):=by
  rw[<- va,hpow,<- Nat.div_div_eq_div_mul]
  congr 1
  conv=>lhs;rw[<- List.take_append_drop (m/32) a,wth_append]
  have h1:=wth_lt (okL_take ha (m/32))
  rw[List.length_take]at h1 ⊢
  rcases Nat.lt_or_ge a.length (m/32) with h2|h2
  ·rw[List.drop_of_length_le (by omega)]
   simp only[wth,Nat.mul_zero,Nat.add_zero]
   refine Nat.div_eq_of_lt (Nat.lt_of_lt_of_le h1 (Nat.pow_le_pow_right (by omega) (Nat.min_le_left _ _)))
  ·rw[Nat.min_eq_left h2]at h1 ⊢
   rw[Nat.add_comm,Nat.mul_add_div (Nat.pow_pos (by omega)),Nat.div_eq_of_lt h1,Nat.add_zero]
 rw[hdiv]
 by_cases hlen:a.length<=m/32
 ·rw[List.drop_of_length_le hlen]
  have e0:lim (wth []/2^(m%32))=[]:=by simp[wth,lim_zero]
  rw[e0]
  repeat (first|simp only[go_sem,e3,tdiv32,tmod32]|simp (disch:=first|exact oa|fail) only[AX,e3,tdiv32,tmod32]|refine wki ?_|refine wqn ?_)
  rfl
 ·repeat (first|simp only[go_sem,e3,tdiv32,tmod32]|simp (disch:=first|exact oa|fail) only[AX,e3,tdiv32,tmod32]|refine wki ?_|refine wqn ?_)
  have hbl:(a.drop (m/32)).length=a.length-m/32:=List.length_drop ..
  have hb:=okL_drop ha (m/32)
  have hnl:a.length-m/32<=1073741824:=by omega
  generalize a.drop (m/32)=b at *
  generalize a.length-m/32=n at *
  subst hbl
  have hDE:2^(m%32)*2^(32-m%32)=4294967296:=by rw[<- Nat.pow_add,show m%32+(32-m%32)=32 by omega]
  generalize m%32=k at *
  have hD0:0<2^k:=Nat.pow_pos (by omega)
  have hE0:0<2^(32-k):=Nat.pow_pos (by omega)
  refine vp_loop_inv (fun s'=>s'.tmp 6 = .sv (.int .u64 k)/\s'.tmp 7 = .ref 35 0 1 0 b.length/\s'.tmp 38 = .sv (natV b)/\s'.tmp 39 = .sv (.int .i64 b.length) /\
    ∃c:List Nat,∃i:Nat,s'.obj 35 0=some (c.map limb)/\s'.tmp 40 = .sv (.int .i64 i)/\c.length=b.length/\okL c/\i<=b.length/\(∀j,i<=j->c.getD j 0=0)/\(1<=i->c.getD (i-1) 0<2^(32-k)) /\
     ∃e,e<4294967296/\wth (b.take i)*2^(32-k)=4294967296*wth (c.take i)+e)
   (fun s=>match s.tmp 40 with | .sv (.int _ i)=>b.length-i.toNat|_=>0) ?_ ?_
  ·refine⟨rfl,rfl,rfl,rfl,List.replicate b.length 0,0,rfl,rfl,List.length_replicate ..,okL_replicate _,by omega,fun j _ => ?_,fun h=>absurd h (by omega),0,by omega,by simp[wth]⟩
   simp only[List.getD_eq_getElem?_getD,List.getElem?_replicate]
   split<;>rfl
  clear e1 e2 e3 hs0 hpow hdiv va lx hx hl
  rintro s' ⟨i6,i7,i38,i39,c,i,iO,i40,hc,hok,hi,hz,hlow,e,he,hv⟩
  by_cases hend:i=b.length
  ·subst hend
   have e7:wth c=wth b/2^k:=by
    rw[List.take_of_length_le (Nat.le_refl _),List.take_of_length_le (by omega)]at hv
    rw[<- Nat.mul_div_mul_right _ _ hE0,hDE,hv,Nat.mul_add_div (by omega),Nat.div_eq_of_lt he,Nat.add_zero]
   repeat (first|simp only[go_sem,i6,i7,i38,i39,iO,i40]|simp (disch:=first|exact oa|fail) only[AX,i6,i7,i38,i39,iO,i40]|refine wki ?_|refine wqn ?_|refine vpx [] ?_)
   refine vf_of (fn_natV (nat_trim c hok (by omega)) hc) ?_;repeat (first|simp only[go_sem,i6,i7,i38,i39,iO,i40]|simp (disch:=first|exact oa|fail) only[AX,i6,i7,i38,i39,iO,i40]|refine wki ?_|refine wqn ?_|refine vpx [] ?_)
   rw[e7]
  ·have h1:=getD_lt hb i
   have hz0:=hz i (Nat.le_refl _)
   have ht:=wth_take_succ b i
   generalize hvv:b.getD i 0=v at *
   have hw:v*4294967296/2^k=v*2^(32-k):=by
    rw[<- hDE,Nat.mul_left_comm,Nat.mul_div_cancel_left _ hD0]
   have hmod:v*2^(32-k)%4294967296=2^(32-k)*(v%2^k):=by
    conv=>lhs;rw[<- hDE]
    rw[Nat.mul_comm v,Nat.mul_comm (2^k),Nat.mul_mod_mul_left]
   have hhi:v*2^(32-k)/4294967296<2^(32-k):=by
    rw[Nat.div_lt_iff_lt_mul (by omega),Nat.mul_comm (2^(32-k))]
    exact Nat.mul_lt_mul_of_pos_right h1 hE0
   have hE1:2^(32-k)<=4294967296:=by
    have:=Nat.pow_le_pow_right (n:=2) (by omega) (show 32-k<=32 by omega)
    omega
   have hor : ∀h,h<2^(32-k)->h |||v*2^(32-k)%4294967296=h+v*2^(32-k)%4294967296:=fun h hh=>by rw[hmod];exact or_low hh
   have hsum : ∀h,h<2^(32-k)->h+v*2^(32-k)%4294967296<4294967296:=fun h hh=>by
    rw[hmod]
    have e1:v%2^k+1<=2^k:=Nat.mod_lt _ hD0
    have e2:2^(32-k)*(v%2^k+1)<=2^(32-k)*2^k:=Nat.mul_le_mul_left _ e1
    rw[Nat.mul_comm (2^(32-k)) (2^k),hDE,Nat.mul_add,Nat.mul_one]at e2
    omega
   have hW1:v*2^(32-k)<18446744073709551616:=by
    have:v*2^(32-k)<=4294967295*4294967296:=Nat.mul_le_mul (by omega) hE1
    omega
   clear hmod
   generalize hE:2^(32-k)=E at *
   generalize hWW:v*E=W at *
   have hsplit:=Nat.mod_add_div W 4294967296
   have hlo:W%4294967296<4294967296:=Nat.mod_lt _ (by omega)
   generalize hL:W%4294967296=lo at *
   generalize hH:W/4294967296=hh at *
   by_cases hi0:1<=i
   rotate_left
   ·clear hor hsum
    repeat (first|simp only[go_sem,i6,i7,i38,i39,iO,i40,hvv,hw,hL,hH,hz0,Nat.zero_or]|simp (disch:=first|exact oa|fail) only[AX,i6,i7,i38,i39,iO,i40,hvv,hw,hL,hH,hz0,Nat.zero_or]|refine wki ?_|refine wqn ?_|refine vpx [] ?_)
    obtain rfl:i=0:=by omega
    refine⟨⟨c.set 0 hh,1,rfl,rfl,by rw[List.length_set];exact hc,okL_set hok _ _ (by omega),by omega,fun j hj=>(getD_set_ne (by omega)).trans (hz j (by omega)),fun _ => ?_,lo,hlo,?_⟩,by omega⟩
    ·rw[getD_set_self (by omega)];exact hhi
    ·have e1:=wth_set_take (xs:=c) (i:=0) (by omega) hh
     rw[Nat.zero_add]at e1 ht
     rw[ht,e1,List.take_zero,List.take_zero,Nat.pow_zero,Nat.one_mul,Nat.one_mul]
     simp only[wth,Nat.zero_add]
     rw[hWW]
     omega
   ·have hlow':=hlow hi0
    have hor':=hor _ hlow'
    have hsum':=hsum _ hlow'
    generalize hq:c.getD (i-1) 0=q at *
    generalize hqq:q+lo=qq at *
    clear hor hsum
    have hset:(c.set i hh).getD (i-1) 0=q:=by rw[getD_set_ne (by omega),hq]
    repeat (first|simp only[go_sem,i6,i7,i38,i39,iO,i40,hvv,hw,hL,hH,hz0,Nat.zero_or,hset,hor']|simp (disch:=first|exact oa|fail) only[AX,i6,i7,i38,i39,iO,i40,hvv,hw,hL,hH,hz0,Nat.zero_or,hset,hor']|refine wki ?_|refine wqn ?_|refine vpx [] ?_)
    have hpw:4294967296*4294967296^(i-1)=4294967296^i:=by
     rw[<- Nat.pow_succ',show (i-1).succ=i by omega]
    have hc1:wth (c.take i)=wth (c.take (i-1))+4294967296^(i-1)*q:=by
     have:=wth_take_succ c (i-1)
     rw[show i-1+1=i by omega,hq]at this
     exact this
    have hc2:wth (((c.set i hh).set (i-1) qq).take (i+1))=wth (c.take (i-1))+4294967296^(i-1)*qq+4294967296^i*hh:=by
     have e2:=wth_set_take (xs:=c.set i hh) (i:=i-1) (by rw[List.length_set];omega) qq
     have e5:(c.set i hh).take (i-1)=c.take (i-1):=List.take_set_of_le (by omega)
     rw[show i-1+1=i by omega,e5]at e2
     rw[wth_take_succ,e2,getD_set_ne (by omega),getD_set_self (by omega)]
    refine⟨⟨(c.set i hh).set (i-1) qq,i+1,rfl,rfl,by rw[List.length_set,List.length_set];exact hc,okL_set (okL_set hok _ _ (by omega)) _ _ (by omega),by omega,fun j hj => ?_,fun _ => ?_,e,he,?_⟩,by omega⟩
    ·rw[getD_set_ne (by omega),getD_set_ne (by omega)];exact hz j (by omega)
    ·rw[Nat.add_sub_cancel,getD_set_ne (by omega),getD_set_self (by omega)];exact hhi
    ·rw[ht,hc2,Nat.add_mul,hv,hc1,<- hqq,Nat.mul_assoc,hWW,<- hsplit,Nat.mul_add (4294967296^i),Nat.mul_add (4294967296^(i-1))]
     have e3:4294967296*(4294967296^(i-1)*lo)=4294967296^i*lo:=by rw[<- Nat.mul_assoc,hpw]
     have e4:4294967296^i*(4294967296*hh)=4294967296*(4294967296^i*hh):=Nat.mul_left_comm ..
     generalize 4294967296^(i-1)*lo=x1 at *
     generalize 4294967296^(i-1)*q=x2 at *
     generalize 4294967296^i*lo=x3 at *
     omega
end Go.Proofs.YtcfjiolldehegaaGreatDoor
namespace Go.Proofs.YtcfjiolldehegaaGreatDoor
open Go.Ev
theorem wth_parts (c:List Nat) (j m:Nat) (h:j+m<=c.length):wth c=wth (c.take j)+4294967296^j*(seg c j m+4294967296^m*wth (c.drop (j+m))):=by
 conv=>lhs;rw[<- List.take_append_drop j c,wth_append,<- List.take_append_drop m (c.drop j),wth_append]
 rw[List.length_take,List.length_take,List.length_drop,List.drop_drop,Nat.min_eq_left (by omega),Nat.min_eq_left (by omega)]
 rfl
theorem seg_top (c:List Nat) (j m:Nat):seg c j (m+2)=seg c j m+4294967296^m*(c.getD (j+m+1) 0*4294967296+c.getD (j+m) 0):=by
 rw[seg_succ,seg_succ,Nat.pow_succ,Nat.mul_add,Nat.mul_comm (c.getD (j+m+1) 0),<- Nat.mul_assoc,Nat.add_assoc,Nat.add_comm (4294967296^m*c.getD (j+m) 0)]
 rfl
theorem seg_all (c:List Nat):seg c 0 c.length=wth c:=by
 unfold seg
 rw[List.drop_zero,List.take_length]
theorem drop_same {c e:List Nat} {m:Nat} (hl:c.length=e.length) (h : ∀j,m<=j->c.getD j 0=e.getD j 0):c.drop m=e.drop m:=by
 refine List.ext_getElem (by simp[hl]) fun n h1 h2 => ?_
 rw[List.length_drop]at h1 h2
 have:=h (m+n) (by omega)
 rw[List.getElem_drop,List.getElem_drop]
 simpa[List.getD_eq_getElem?_getD,List.getElem?_eq_getElem (show m+n<c.length by omega),List.getElem?_eq_getElem (show m+n<e.length by omega)]using this
theorem take_same {c e:List Nat} {m:Nat} (hl:c.length=e.length) (h : ∀j,j<m->c.getD j 0=e.getD j 0):c.take m=e.take m:=by
 refine List.ext_getElem (by simp[hl]) fun n h1 h2 => ?_
 rw[List.length_take]at h1 h2
 have:=h n (by omega)
 rw[List.getElem_take,List.getElem_take]
 simpa[List.getD_eq_getElem?_getD,List.getElem?_eq_getElem (show n<c.length by omega),List.getElem?_eq_getElem (show n<e.length by omega)]using this
structure LongI (us d:List Nat) (j:Nat):Prop where
 ou:okL us
 od:okL d
 n2:2<=d.length
 hj:j+d.length+1<=us.length
 big:2147483648<=d.getD (d.length-1) 0
 lt:wth us<wth d*4294967296^(j+1)
theorem long_D {us d:List Nat} {j:Nat} (h:LongI us d j):wth d=seg d 0 (d.length-2)+4294967296^(d.length-2)*(d.getD (d.length-1) 0*4294967296+d.getD (d.length-2) 0):=by
 have:=seg_top d 0 (d.length-2)
 have h2:=h.n2
 rw[show d.length-2+2=d.length by omega,seg_all,show 0+(d.length-2)+1=d.length-1 by omega,show 0+(d.length-2)=d.length-2 by omega]at this
 exact this
theorem long_U {us d:List Nat} {j:Nat} (h:LongI us d j):seg us j (d.length+1)=seg us j (d.length-2)+4294967296^(d.length-2)*((us.getD (j+d.length) 0*4294967296+us.getD (j+d.length-1) 0)*4294967296+us.getD (j+d.length-2) 0):=by
 have h2:=h.n2
 rw[show d.length+1=d.length-2+1+2 by omega,seg_top,seg_succ us j (d.length-2)]
 rw[show j+(d.length-2+1)+1=j+d.length by omega,show j+(d.length-2+1)=j+d.length-1 by omega,show j+(d.length-2)=j+d.length-2 by omega]
 rw[Nat.pow_succ,Nat.mul_assoc,Nat.add_assoc,<- Nat.mul_add]
 congr 2
 omega
theorem long_row {us d:List Nat} {j:Nat} (h:LongI us d j):wth us=seg us j (d.length+1)*4294967296^j+wth (us.take j)/\wth (us.drop (j+(d.length+1)))=0/\seg us j (d.length+1)<wth d*4294967296:=by
 have hp:=wth_parts us j (d.length+1) (by have:=h.hj;omega)
 have hlt:=h.lt
 have hD:=wth_lt h.od
 have h1:wth d*4294967296^(j+1)<=4294967296^j*4294967296^(d.length+1):=by
  rw[Nat.pow_succ,Nat.pow_succ,Nat.mul_comm (wth d),Nat.mul_right_comm,<- Nat.mul_assoc]
  exact Nat.mul_le_mul_right _ (Nat.mul_le_mul_left _ (Nat.le_of_lt hD))
 have hz:wth (us.drop (j+(d.length+1)))=0:=by
  rcases Nat.eq_zero_or_pos (wth (us.drop (j+(d.length+1)))) with h0|h0
  ·exact h0
  ·have h2:4294967296^j*(4294967296^(d.length+1)*1)<=4294967296^j*(4294967296^(d.length+1)*wth (us.drop (j+(d.length+1)))):=Nat.mul_le_mul_left _ (Nat.mul_le_mul_left _ h0)
   rw[Nat.mul_add]at hp
   rw[Nat.mul_one]at h2
   omega
 rw[hz,Nat.mul_zero,Nat.add_zero,Nat.mul_comm,Nat.add_comm]at hp
 refine⟨hp,hz,?_⟩
 have h3:seg us j (d.length+1)*4294967296^j<wth d*4294967296*4294967296^j:=by
  rw[Nat.mul_assoc,<- Nat.pow_succ']
  exact Nat.lt_of_le_of_lt (by rw[hp];exact Nat.le_add_right ..) hlt
 exact Nat.lt_of_mul_lt_mul_right h3
theorem long_high' {B P D U s0 s1 b1 b2 u1 u2 u3:Nat} (hD:D=s0+P*(b1*B+b2)) (hs:s0<P) (hb:b2<B) (hU:U=s1+P*((u1*B+u2)*B+u3)) (hlt:U<D*B):u1<=b1:=by
 rcases Nat.lt_or_ge b1 u1 with hc|hc
 ·exfalso
  have e0:b1*B+b2+1<=(b1+1)*B:=by rw[Nat.add_mul,Nat.one_mul];omega
  have e1:(b1+1)*B<=u1*B:=Nat.mul_le_mul_right _ hc
  have e2:D<=P*(u1*B):=by
   have e3:P*(b1*B+b2+1)<=P*(u1*B):=Nat.mul_le_mul_left _ (Nat.le_trans e0 e1)
   rw[Nat.mul_add P,Nat.mul_one]at e3
   omega
  have e4:D*B<=P*(u1*B)*B:=Nat.mul_le_mul_right _ e2
  have e5:P*(u1*B)*B<=P*((u1*B+u2)*B+u3):=by
   rw[Nat.mul_assoc]
   refine Nat.mul_le_mul_left _ (Nat.le_trans (Nat.mul_le_mul_right _ (Nat.le_add_right _ u2)) (Nat.le_add_right _ _))
  omega
 ·exact hc
theorem long_high {us d:List Nat} {j:Nat} (h:LongI us d j):us.getD (j+d.length) 0<=d.getD (d.length-1) 0:=
 long_high' (long_D h) (seg_lt h.od 0 _) (getD_lt h.od _) (long_U h) (long_row h).2.2
theorem long_x' {B P D U s0 s1 b1 b2 u x:Nat} (hD:D=s0+P*(b1*B+b2)) (hs:s0<P) (hB:0<B) (hb1:1<=b1) (hU:U=s1+P*u) (hs1:s1<P) (hlt:U<D*B)
  (hx1:x<=B-1) (hx2:x<=u/(b1*B+b2)) (hx3 : ∀q,q<=B-1->q<=u/(b1*B+b2)->q<=x):U/D<=x/\x*D<=U+D:=by
 have e0:1*B<=b1*B:=Nat.mul_le_mul_right _ hb1
 rw[Nat.one_mul]at e0
 refine long_guess (B:=B) (M:=P) (v:=b1*B+b2) (u:=u) ?_ ?_ ?_ ?_ ?_ hB hlt (by omega) hx1 hx2 hx3
 ·rw[Nat.mul_comm];omega
 ·rw[Nat.add_mul,Nat.one_mul,Nat.mul_comm _ P];omega
 ·rw[Nat.mul_comm];omega
 ·rw[Nat.add_mul,Nat.one_mul,Nat.mul_comm _ P];omega
 ·have:P*B<=P*(b1*B+b2):=Nat.mul_le_mul_left _ (by omega)
  rw[Nat.mul_comm];omega
theorem long_x {us d:List Nat} {j x:Nat} (h:LongI us d j) (hx:x=guessN ((us.getD (j+d.length) 0*4294967296+us.getD (j+d.length-1) 0)*4294967296+us.getD (j+d.length-2) 0) (d.getD (d.length-1) 0*4294967296+d.getD (d.length-2) 0)) :
  x<=4294967295/\seg us j (d.length+1)/wth d<=x/\x*wth d<=seg us j (d.length+1)+wth d:=by
 refine⟨hx▸guess_le _ _,?_⟩
 exact long_x' (long_D h) (seg_lt h.od 0 _) (by decide) (by have:=h.big;omega) (long_U h) (seg_lt h.ou _ _) (long_row h).2.2 (hx▸guess_le _ _) (hx▸Nat.min_le_right _ _) (fun q hq1 hq2=>by rw[hx];exact Nat.le_min.2 ⟨hq1,hq2⟩)
theorem long_next {us us' d:List Nat} {j x A W:Nat} {b:Bool} (h:LongI us d j) (hx1:seg us j (d.length+1)/wth d<=x) (hx2:x*wth d<=seg us j (d.length+1)+wth d) (hT:Takes us d j x us' b)
  (hA:A=wth d*(4294967296^(j+1)*W)+wth us):(b=true->1<=x) /\
  A=wth d*(4294967296^j*((if b then x-1 else x)+4294967296*W))+wth us'/\wth us'<wth d*4294967296^j:=by
 obtain⟨hr1,hr2,hr3⟩:=long_row h
 obtain⟨t1,t2,t3,t4,t5⟩:=hT
 have hD0:0<wth d:=by
  have h4:=long_D h
  have hb:=h.big
  rw[h4]
  refine Nat.lt_of_lt_of_le ?_ (Nat.le_add_left _ _)
  exact Nat.mul_pos (Nat.pow_pos (by omega)) (by omega)
 have hlow:wth (us.take j)<4294967296^j:=by
  refine Nat.lt_of_lt_of_le (wth_lt (okL_take h.ou j)) (Nat.pow_le_pow_right (by omega) ?_)
  rw[List.length_take];exact Nat.min_le_left _ _
 have hr':wth us'=seg us' j (d.length+1)*4294967296^j+wth (us.take j):=by
  have hp:=wth_parts us' j (d.length+1) (by have:=h.hj;omega)
  rw[drop_same (m:=j+(d.length+1)) t1 (fun i hi=>t3 i (by omega)),hr2,take_same (m:=j) t1 (fun i hi=>t3 i (by omega)),Nat.mul_zero,Nat.add_zero,Nat.mul_comm,Nat.add_comm]at hp
  exact hp
 generalize hU:seg us j (d.length+1)=U at *
 generalize seg us' j (d.length+1)=U' at *
 generalize wth d=D at *
 have hle : ∀q,q*D<=U->q<=U/D:=fun q hq=>(Nat.le_div_iff_mul_le hD0).2 hq
 have hge : ∀q,U<q*D->U/D<q:=fun q hq=>(Nat.div_lt_iff_lt_mul hD0).2 hq
 have fin : ∀q,q=U/D->U'+q*D=U->A=D*(4294967296^j*(q+4294967296*W))+wth us'/\wth us'<D*4294967296^j:=by
  intro q hq hU'
  have e:U'=U-q*D:=by omega
  rw[hr',e]
  refine long_step (P:=4294967296^j) (B:=4294967296) (low:=wth (us.take j)) (us:=wth us) ?_ hr1 hlow hD0 hq
  rw[hA,Nat.pow_succ]
 rcases Nat.lt_or_ge U (x*D) with hc|hc
 ·obtain⟨hbt,h6⟩:=t5 hc hx2
  subst hbt
  have hx0:1<=x:=by
   rcases Nat.eq_zero_or_pos x with rfl|h0
   ·rw[Nat.zero_mul]at hc;omega
   ·exact h0
  have h7:x*D=(x-1)*D+D:=by
   conv=>lhs;rw[show x=x-1+1 by omega,Nat.add_mul,Nat.one_mul]
  have h8:=hle (x-1) (by omega)
  have h9:=hge x hc
  exact⟨fun _=>hx0,fin (x-1) (by omega) (by omega)⟩
 ·obtain⟨hbt,h6⟩:=t4 hc
  subst hbt
  have h8:=hle x hc
  refine⟨fun h=>Bool.noConfusion h,fin x (by omega) h6⟩
theorem long_norm' {B H P E b blow top D dlow dtop:Nat} (hb:b=blow+P*top) (hbl:blow<P) (h1:(top+1)*E<=B) (h2:H<=top*E) (hD:D=b*E%(P*B)) (hd:D=dlow+P*dtop) (hdl:dlow<P) :
  D=b*E/\H<=dtop/\P*H<=D:=by
 have e1:b+1<=P*(top+1):=by rw[Nat.mul_add,Nat.mul_one];omega
 have e0:0<P:=by omega
 have e2:b*E<P*B\/E=0:=by
  rcases Nat.eq_zero_or_pos E with h|h
  ·exact .inr h
  ·left
   have e3:(b+1)*E<=P*(top+1)*E:=Nat.mul_le_mul_right _ e1
   have e4:P*(top+1)*E<=P*B:=by rw[Nat.mul_assoc];exact Nat.mul_le_mul_left _ h1
   rw[Nat.add_mul,Nat.one_mul]at e3
   omega
 have e5:D=b*E:=by
  rw[hD]
  rcases e2 with h|h
  ·exact Nat.mod_eq_of_lt h
  ·rw[h,Nat.mul_zero,Nat.zero_mod]
 have e6:P*H<=D:=by
  rw[e5]
  have e7:P*H<=P*(top*E):=Nat.mul_le_mul_left _ h2
  have e8:P*(top*E)<=b*E:=by rw[<- Nat.mul_assoc];exact Nat.mul_le_mul_right _ (by omega)
  omega
 refine⟨e5,?_,e6⟩
 rcases Nat.lt_or_ge dtop H with h|h
 ·exfalso
  have:P*(dtop+1)<=P*H:=Nat.mul_le_mul_left _ h
  rw[Nat.mul_add,Nat.mul_one]at this
  omega
 ·exact h
theorem blen_bounds {x:Nat} (hx:x≠0) (hx2:x<4294967296):32-blen x<=31/\(x+1)*2^(32-blen x)<=4294967296/\2147483648<=x*2^(32-blen x):=by
 have h1:x<2^(x.log2+1):=Nat.lt_log2_self
 have h2:2^x.log2<=x:=Nat.log2_self_le hx
 have h3:x.log2<32:=(Nat.log2_lt hx).2 hx2
 unfold blen
 rw[if_neg hx]
 refine⟨by omega,?_,?_⟩
 ·have e:(4294967296:Nat)=2^(x.log2+1)*2^(32-(x.log2+1)):=by rw[<- Nat.pow_add,show x.log2+1+(32-(x.log2+1))=32 by omega]
  rw[e]
  exact Nat.mul_le_mul_right _ h1
 ·have e:(2147483648:Nat)=2^x.log2*2^(32-(x.log2+1)):=by rw[<- Nat.pow_add,show x.log2+(32-(x.log2+1))=31 by omega]
  rw[e]
  exact Nat.mul_le_mul_right _ h2
theorem wth_top {b:List Nat} (h:1<=b.length):wth b=wth (b.take (b.length-1))+4294967296^(b.length-1)*b.getD (b.length-1) 0:=by
 have:=wth_take_succ b (b.length-1)
 rw[show b.length-1+1=b.length by omega,List.take_length]at this
 exact this
theorem wth_low {b:List Nat} (hb:okL b) (n:Nat):wth (b.take n)<4294967296^n:=by
 refine Nat.lt_of_lt_of_le (wth_lt (okL_take hb n)) (Nat.pow_le_pow_right (by omega) ?_)
 rw[List.length_take];exact Nat.min_le_left _ _
theorem long_start' {A E H P Q D:Nat} (ha:A<P*Q) (hE:E<=H) (hD:P*H<=D) (hE0:0<E):A*E<D*Q:=by
 have e1:A*E<P*Q*E:=Nat.mul_lt_mul_of_pos_right ha hE0
 have e2:P*Q*E<=P*Q*H:=Nat.mul_le_mul_left _ hE
 have e3:P*H*Q<=D*Q:=Nat.mul_le_mul_right _ hD
 rw[Nat.mul_right_comm]at e3
 omega
theorem long_setup {a b us d:List Nat} {k:Nat} (ha:okL a) (hb:okL b) (hb2:2<=b.length) (hab:b.length<=a.length) (htop:b.getD (b.length-1) 0≠0) (hk:32-blen (b.getD (b.length-1) 0)=k)
  (huv:wth us=wth a*2^k%4294967296^(a.length+1)) (hd:okL d) (hdl:d.length=b.length) (hdv:wth d=wth b*2^k%4294967296^b.length) :
  wth us=wth a*2^k/\wth d=wth b*2^k/\2147483648<=d.getD (b.length-1) 0/\wth us<wth d*4294967296^(a.length-b.length+1):=by
 obtain⟨h1,h2,h3⟩:=blen_bounds htop (getD_lt hb _)
 rw[hk]at h1 h2 h3
 have h4:=wth_top (b:=d) (by omega)
 rw[hdl]at h4
 rw[show 4294967296^b.length=4294967296^(b.length-1)*4294967296 by rw[<- Nat.pow_succ,show (b.length-1).succ=b.length by omega]]at hdv
 obtain⟨g1,g2,g3⟩:=long_norm' (wth_top (b:=b) (by omega)) (wth_low hb _) h2 h3 hdv h4 (wth_low hd _)
 have hE:2^k<=2147483648:=Nat.pow_le_pow_right (n:=2) (by omega) h1
 have hE0:0<2^k:=Nat.pow_pos (by omega)
 have ha':=wth_lt ha
 have hua:wth us=wth a*2^k:=by
  rw[huv]
  refine Nat.mod_eq_of_lt ?_
  rw[Nat.pow_succ]
  exact Nat.lt_of_lt_of_le (Nat.mul_lt_mul_of_pos_right ha' hE0) (Nat.mul_le_mul_left _ (by omega))
 refine⟨hua,g1,g2,?_⟩
 rw[hua]
 refine long_start' (H:=2147483648) (P:=4294967296^(b.length-1)) ?_ hE g3 hE0
 rw[<- Nat.pow_add,show b.length-1+(a.length-b.length+1)=a.length by omega]
 exact ha'
theorem long_end {a b q r D E U:Nat} (hD:D=b*E) (hE:0<E) (hU:U=a*E) (h:U=D*q+r) (hr:r<D):a/b=q/\r/E=a%b:=by
 have hb:0<b:=by
  rcases Nat.eq_zero_or_pos b with h0|h0
  ·rw[h0,Nat.zero_mul]at hD;omega
  ·exact h0
 have e1:a/b=q:=by
  have:U/D=q:=by rw[h,Nat.mul_add_div (by omega),Nat.div_eq_of_lt hr,Nat.add_zero]
  rw[<- this,hU,hD,Nat.mul_div_mul_right _ _ hE]
 refine⟨e1,?_⟩
 have e2:r=a%b*E:=by
  have e3:=Nat.div_add_mod a b
  rw[e1]at e3
  have e4:a*E=b*q*E+a%b*E:=by
   conv=>lhs;rw[<- e3]
   rw[Nat.add_mul]
  rw[hU,hD,Nat.mul_right_comm]at h
  omega
 rw[e2,Nat.mul_div_cancel _ hE]
end Go.Proofs.YtcfjiolldehegaaGreatDoor
namespace Go.Proofs.YtcfjiolldehegaaGreatDoor
open Go.Ev
theorem zero_sub1:((0:Nat):Int)-1 = -1:=rfl
set_option maxHeartbeats 1000000 in
theorem nat_long (a b:List Nat) (ha:okL a) (hb:okL b) (hl:a.length<=536870912) (hb2:2<=b.length) (hab:b.length<=a.length) (htop:b.getD (b.length-1) 0≠0) :
  Go.Ev.Fn CX 302 [natV a,natV b] (.tup [natV (lim (wth a/wth b)),natV (lim (wth a%wth b))]):=by
 refine fni Tryz.f302 ?_;unfold Tryz.f302;simp only[Option.get!_some]
 have ht:=getD_lt hb (b.length-1)
 have hk31:=(blen_bounds htop ht).1
 have hbl:blen (b.getD (b.length-1) 0)<=32:=blen_le (k:=32) ht
 have hbl1:1<=blen (b.getD (b.length-1) 0):=by unfold blen;rw[if_neg htop];omega
 repeat (first|simp only[go_sem]|simp (disch:=first|exact oa|fail) only[AX]|refine wki ?_|refine wqn ?_)
 refine vf_of (bits_LeadingZeros32 (b.getD (b.length-1) 0) ht) ?_;repeat (first|simp only[go_sem]|simp (disch:=first|exact oa|fail) only[AX]|refine wki ?_|refine wqn ?_)
 generalize hk:32-blen (b.getD (b.length-1) 0)=k at *
 have hk32:k<32:=by omega
 refine vf_row (nat_left a k (a.length+1) ha (by omega) hk32 (by omega) (by omega)) ?_
 repeat (first|simp only[go_sem]|simp (disch:=first|exact oa|fail) only[AX]|refine wki ?_|refine wqn ?_)
 refine vf_row (nat_left b k b.length hb (by omega) hk32 (by omega) (by omega)) ?_
 repeat (first|simp only[go_sem]|simp (disch:=first|exact oa|fail) only[AX]|refine wki ?_|refine wqn ?_)
 have hu:=okL_limN (a.length+1) (wth a*2^k)
 have hul:=limN_length (a.length+1) (wth a*2^k)
 have huv:=wth_limN (a.length+1) (wth a*2^k)
 have hd:=okL_limN b.length (wth b*2^k)
 have hdl:=limN_length b.length (wth b*2^k)
 have hdv:=wth_limN b.length (wth b*2^k)
 generalize limN (a.length+1) (wth a*2^k)=us0 at *
 generalize limN b.length (wth b*2^k)=d at *
 obtain⟨hU0,hD0,hbig,hlt0⟩:=long_setup ha hb hb2 hab htop hk huv hd hdl hdv
 clear huv hdv
 refine vp_loop_inv (fun s'=>s'.tmp 6 = .sv (.int .u64 k)/\s'.tmp 7 = .ref 25 0 1 0 (a.length+1)/\s'.tmp 8 = .ref 30 0 1 0 b.length/\s'.tmp 9 = .sv (.int .i64 b.length)/\s'.tmp 4 = .ref 38 0 1 0 (a.length-b.length+1)/\s'.obj 30 0=some (d.map limb) /\
   ∃us q:List Nat,∃i:Nat,s'.obj 25 0=some (us.map limb)/\s'.obj 38 0=some (q.map limb)/\s'.tmp 10 = .sv (.int .i64 ((i:Int)-1))/\us.length=a.length+1/\okL us/\q.length=a.length-b.length+1/\okL q/\i<=a.length-b.length+1 /\
    wth us0=wth d*(4294967296^i*wth (q.drop i))+wth us/\wth us<wth d*4294967296^i)
  (fun s=>match s.tmp 10 with | .sv (.int _ i)=>(i+1).toNat|_=>0) ?_ ?_
 ·refine⟨rfl,rfl,rfl,rfl,rfl,rfl,us0,List.replicate (a.length-b.length+1) 0,a.length-b.length+1,rfl,rfl,?_,hul,hu,List.length_replicate ..,okL_replicate _,Nat.le_refl _,?_,hlt0⟩
  ·exact congrArg (fun n=>TV.sv (.int .i64 n)) (show ((a.length-b.length+1-1:Nat):Int)=((a.length-b.length+1:Nat):Int)-1 by omega)
  ·rw[List.drop_of_length_le (Nat.le_of_eq (List.length_replicate ..)),wth_nil,Nat.mul_zero,Nat.mul_zero,Nat.zero_add]
 rintro s' ⟨i6,i7,i8,i9,i4,iD,us,q,i,iU,iQ,i10,hus,hok,hql,hqk,hi,hA,hlt⟩
 rcases Nat.eq_zero_or_pos i with rfl|hi0
 ·repeat (first|simp only[go_sem,i6,i7,i8,i9,i4,iD,iU,iQ,i10]|simp (disch:=first|exact oa|fail) only[AX,i6,i7,i8,i9,i4,iD,iU,iQ,i10]|refine wki ?_|refine wqn ?_)
  refine vpx [4,7] ?_;repeat (first|simp only[go_sem,i6,i7,i8,i9,i4,iD,iU,iQ,i10,N0,zero_sub1,decide_true,frzAll]|simp (disch:=first|exact oa|fail) only[AX,i6,i7,i8,i9,i4,iD,iU,iQ,i10,N0,zero_sub1,decide_true,frzAll]|refine wki ?_|refine wqn ?_|refine vpx [] ?_)
  rw[Nat.pow_zero,Nat.one_mul,List.drop_zero]at hA
  rw[Nat.pow_zero,Nat.mul_one]at hlt
  obtain⟨e1,e2⟩:=long_end hD0 (Nat.pow_pos (by omega)) hU0 hA hlt
  have hut:(us.take b.length).length=b.length:=by rw[List.length_take];omega
  have hwt:wth (us.take b.length)=wth us:=by
   have h1:=wth_parts us b.length (a.length+1-b.length) (by omega)
   have h2:=wth_lt hd
   rw[hdl]at h2
   generalize seg us b.length (a.length+1-b.length)+4294967296^(a.length+1-b.length)*wth (us.drop (b.length+(a.length+1-b.length)))=z at h1
   rcases Nat.eq_zero_or_pos z with rfl|hz
   ·rw[Nat.mul_zero,Nat.add_zero]at h1;exact h1.symm
   ·have:4294967296^b.length*1<=4294967296^b.length*z:=Nat.mul_le_mul_left _ hz
    omega
  have hS:Go.Ev.Fn CX 232 [natV (us.take b.length),.int .i64 (0-(k:Int))] (natV (lim (wth a%wth b))):=by
   rw[<- e2,<- hwt]
   rcases Nat.eq_zero_or_pos k with h0|h0
   ·have h1:=shift_up (us.take b.length) 0 (okL_take hok _) (by omega) (0-(k:Int)) (by omega) (by omega)
    rw[Nat.pow_zero,Nat.mul_one]at h1
    rw[show 2^k=1 by rw[h0,Nat.pow_zero],Nat.div_one]
    exact h1
   ·exact shift_down (us.take b.length) k (okL_take hok _) (by omega) (0-(k:Int)) (by omega) (by omega) h0
  rw[<- natV_eq hut]at hS
  clear hA hlt hlt0 hU0 hbig hu ht hbl hbl1 htop hk hk31
  refine vf_of (fn_natV (nat_trim q hqk (by omega)) hql) ?_;repeat (first|simp only[go_sem,i6,i7,i8,i9,i4,iD,iU,iQ,i10,N0,zero_sub1,decide_true,frzAll]|simp (disch:=first|exact oa|fail) only[AX,i6,i7,i8,i9,i4,iD,iU,iQ,i10,N0,zero_sub1,decide_true,frzAll]|refine wki ?_|refine wqn ?_|refine vpx [] ?_)
  refine vf_of (hS) ?_;repeat (first|simp only[go_sem,i6,i7,i8,i9,i4,iD,iU,iQ,i10,N0,zero_sub1,decide_true,frzAll]|simp (disch:=first|exact oa|fail) only[AX,i6,i7,i8,i9,i4,iD,iU,iQ,i10,N0,zero_sub1,decide_true,frzAll]|refine wki ?_|refine wqn ?_|refine vpx [] ?_)
  rw[e1]
 ·obtain⟨j,rfl⟩ : ∃j,i=j+1:=⟨i-1,by omega⟩
  have h5:((j+1:Nat):Int)-1=(j:Int):=by omega
  have h6:((j+b.length:Nat):Int)-2=((j+b.length-2:Nat):Int):=by omega
  have h7:(b.length:Int)-2=((b.length-2:Nat):Int):=by omega
  have h8:j+b.length+1-j=b.length+1:=by omega
  rw[h5]at i10
  have hI:LongI us d j:=⟨hok,hd,by omega,by omega,by rw[hdl];exact hbig,hlt⟩
  have hh:=long_high hI
  have hbig':=hI.big
  have hx:=long_x hI rfl
  have hT:=fun us' b x=>long_next (us':=us') (x:=x) (b:=b) (A:=wth us0) (W:=wth (q.drop (j+1))) hI
  rw[hdl]at hh hx hbig'
  obtain⟨x,hxx⟩ : ∃x,guessN ((us.getD (j+b.length) 0*4294967296+us.getD (j+b.length-1) 0)*4294967296+us.getD (j+b.length-2) 0) (d.getD (b.length-1) 0*4294967296+d.getD (b.length-2) 0)=x:=⟨_,rfl⟩
  rw[hxx]at hx
  repeat (first|simp only[go_sem,i6,i7,i8,i9,i4,iD,iU,iQ,i10,h5,h6,h7]|simp (disch:=first|exact oa|fail) only[AX,i6,i7,i8,i9,i4,iD,iU,iQ,i10,h5,h6,h7]|refine wki ?_|refine wqn ?_|refine vpx [] ?_)
  refine vf_of (guess_fn _ _ _ _ _ hh (getD_lt hd _) hbig' (getD_lt hok _) (getD_lt hok _) (getD_lt hd _)) ?_;repeat (first|simp only[go_sem,i6,i7,i8,i9,i4,iD,iU,iQ,i10,h5,h6,h7,h8,hxx]|simp (disch:=first|exact oa|fail) only[AX,i6,i7,i8,i9,i4,iD,iU,iQ,i10,h5,h6,h7,h8,hxx]|refine wki ?_|refine wqn ?_|refine vpx [] ?_)
  obtain⟨r,exps,⟨us',bb,hTk,rfl,rfl⟩,hf⟩:=takes_fn us d j x hok hd (by omega) (by omega) hx.1
  rw[<- hdl]at hx
  obtain⟨hn1,hn2,hn3⟩:=hT us' bb x hx.2.1 hx.2.2 hTk hA
  obtain⟨t1,t2,-⟩:=hTk
  rw[hdl]at hf
  refine vi_of hf rfl ?_
  have hx1:=hx.1
  clear hx hT hxx hh hbig' hI hlt hA hf hlt0 hU0 hD0 hbig hu ht hbl hbl1 htop hk
  cases bb
  ·repeat (first|simp only[go_sem,i6,i7,i8,i9,i4,iD,iU,iQ,i10,h5,h6,h7,h8]|simp (disch:=first|exact oa|fail) only[AX,i6,i7,i8,i9,i4,iD,iU,iQ,i10,h5,h6,h7,h8]|refine wki ?_|refine wqn ?_|refine vpx [] ?_)
   refine⟨⟨us',q.set j x,j,rfl,rfl,rfl,t1.trans hus,t2,by rw[List.length_set];exact hql,okL_set hqk _ _ (by omega),by omega,?_,hn3⟩,by omega⟩
   rw[wth_set_drop (by omega)]
   exact hn2
  ·have hx2:=hn1 rfl
   have hx3:x-1<4294967296:=by omega
   repeat (first|simp only[go_sem,i6,i7,i8,i9,i4,iD,iU,iQ,i10,h5,h6,h7,h8]|simp (disch:=first|exact oa|fail) only[AX,i6,i7,i8,i9,i4,iD,iU,iQ,i10,h5,h6,h7,h8]|refine wki ?_|refine wqn ?_|refine vpx [] ?_)
   refine⟨⟨us',q.set j (x-1),j,rfl,rfl,rfl,t1.trans hus,t2,by rw[List.length_set];exact hql,okL_set hqk _ _ hx3,by omega,?_,hn3⟩,by omega⟩
   rw[wth_set_drop (by omega)]
   exact hn2
end Go.Proofs.YtcfjiolldehegaaGreatDoor
namespace Go.Proofs.YtcfjiolldehegaaGreatDoor
open Go.Ev
def remN (x y:Nat):Nat:=if y=0 then 0 else x%y
theorem cmpN_lt {a b:Nat} (h:a<b):cmpN a b = -1:=if_pos h
theorem cmpN_ge {a b:Nat} (h:b<=a):decide (cmpN a b<0)=false:=by
 unfold cmpN
 rw[if_neg (by omega)]
 split<;>rfl
theorem trimL_getD {xs:List Nat} (h:trimL xs) (h0:1<=xs.length):xs.getD (xs.length-1) 0≠0:=by
 have:=isT_iff.2 h
 unfold isT at this
 rw[Bool.or_eq_true]at this
 rcases this with h1|h1
 ·have:xs.length=0:=by simpa using h1
  omega
 ·simpa using h1
theorem nat_DivMod (xs ys:List Nat) (hx:okL xs) (hy:okL ys) (hl:xs.length<=536870912) (hm:ys.length<=536870912) :
  Go.Ev.Fn CX 258 [natV xs,natV ys] (.tup [natV (lim (wth xs/wth ys)),natV (lim (remN (wth xs) (wth ys))),.bool (decide (wth ys≠0))]):=by
 refine fni Tryz.f258 ?_;unfold Tryz.f258;simp only[Option.get!_some]
 have lx:=lim_length_le hx
 have ly:=lim_length_le hy
 repeat (first|simp only[go_sem]|simp (disch:=first|exact oa|fail) only[AX]|refine wki ?_|refine wqn ?_|refine vpx [] ?_)
 refine vf_of (nat_trim xs hx (by omega)) ?_;repeat (first|simp only[go_sem]|simp (disch:=first|exact oa|fail) only[AX]|refine wki ?_|refine wqn ?_|refine vpx [] ?_)
 refine vf_of (nat_trim ys hy (by omega)) ?_;repeat (first|simp only[go_sem]|simp (disch:=first|exact oa|fail) only[AX]|refine wki ?_|refine wqn ?_|refine vpx [] ?_)
 have ha:=okL_lim (wth xs)
 have hb:=okL_lim (wth ys)
 have va:=wth_lim (wth xs)
 have vb:=wth_lim (wth ys)
 have ta:=trimL_lim (wth xs)
 have tb:=trimL_lim (wth ys)
 generalize lim (wth xs)=a at *
 generalize lim (wth ys)=b at *
 rw[<- va,<- vb]
 clear va vb hx hy
 rcases Nat.eq_zero_or_pos b.length with h0|h0
 ·obtain rfl:b=[]:=List.eq_nil_of_length_eq_zero h0
  rw[wth_nil,Nat.div_zero,lim_zero,show remN (wth a) 0=0 by rfl,lim_zero]
  repeat (first|simp only[go_sem]|simp (disch:=first|exact oa|fail) only[AX]|refine wki ?_|refine wqn ?_|refine vpx [] ?_)
  rfl
 have hb0:0<wth b:=by
  have h1:=trimL_getD tb h0
  rw[wth_top h0]
  refine Nat.lt_of_lt_of_le ?_ (Nat.le_add_left _ _)
  exact Nat.mul_pos (Nat.pow_pos (by omega)) (by omega)
 have e0:remN (wth a) (wth b)=wth a%wth b:=if_neg (by omega)
 have e1:decide (wth b≠0)=true:=decide_eq_true (by omega)
 rw[e0,e1]
 have hc:=nat_Cmp a b ha hb (by omega) (by omega)
 by_cases hlt:wth a<wth b
 ·rw[cmpN_lt hlt]at hc
  rw[Nat.div_eq_of_lt hlt,Nat.mod_eq_of_lt hlt,lim_zero]
  repeat (first|simp only[go_sem]|simp (disch:=first|exact oa|fail) only[AX]|refine wki ?_|refine wqn ?_|refine vpx [] ?_|refine vf_of (by first|exact hc) ?_)
  refine vf_of (nat_Trim a ha (by omega)) ?_;repeat (first|simp only[go_sem]|simp (disch:=first|exact oa|fail) only[AX]|refine wki ?_|refine wqn ?_|refine vpx [] ?_)
  rfl
 ·have h2:=cmpN_ge (by omega:wth b<=wth a)
  repeat (first|simp only[go_sem,h2]|simp (disch:=first|exact oa|fail) only[AX,h2]|refine wki ?_|refine wqn ?_|refine vpx [] ?_|refine vf_of (by first|exact hc) ?_)
  by_cases h1:b.length=1
  ·obtain⟨v,rfl⟩:=List.length_eq_one_iff.1 h1
   have hv:v<4294967296:=(okL_cons.1 hb).1
   have ev:wth [v]=v:=by rw[wth_cons,wth_nil,Nat.mul_zero,Nat.add_zero]
   rw[ev]at hb0 hlt e0 e1 h2 hc ⊢
   have hm:wth a%v<4294967296:=Nat.lt_trans (Nat.mod_lt _ hb0) hv
   generalize hM:wth a%v=M at *
   repeat (first|simp only[go_sem,h2,List.head?_cons]|simp (disch:=first|exact oa|fail) only[AX,h2,List.head?_cons]|refine wki ?_|refine wqn ?_|refine vpx [] ?_)
   refine vf_of (nat_small a v ha (by omega) hb0 hv) ?_;repeat (first|simp only[go_sem,h2,hM]|simp (disch:=first|exact oa|fail) only[AX,h2,hM]|refine wki ?_|refine wqn ?_|refine vpx [] ?_)
   refine vf_of (nat_Of M (by omega)) ?_;repeat (first|simp only[go_sem]|simp (disch:=first|exact oa|fail) only[AX]|refine wki ?_|refine wqn ?_|refine vpx [] ?_)
  ·have hla:=trimL_length hb ha tb (by omega)
   repeat (first|simp only[go_sem]|simp (disch:=first|exact oa|fail) only[AX]|refine wki ?_|refine wqn ?_|refine vpx [] ?_)
   refine vf_of (nat_long a b ha hb (by omega) (by omega) hla (trimL_getD tb h0)) ?_;repeat (first|simp only[go_sem]|simp (disch:=first|exact oa|fail) only[AX]|refine wki ?_|refine wqn ?_|refine vpx [] ?_)
theorem nat_Gcd (xs ys:List Nat) (hx:okL xs) (hy:okL ys) (hl:xs.length<=536870912) (hm:ys.length<=536870912) :
  Go.Ev.Fn CX 257 [natV xs,natV ys] (natV (lim (Nat.gcd (wth xs) (wth ys)))):=by
 refine fni Tryz.f257 ?_;unfold Tryz.f257;simp only[Option.get!_some]
 have lx:=lim_length_le hx
 have ly:=lim_length_le hy
 repeat (first|simp only[go_sem]|simp (disch:=first|exact oa|fail) only[AX]|refine wki ?_|refine wqn ?_|refine vpx [] ?_)
 refine vf_of (nat_Trim xs hx (by omega)) ?_;repeat (first|simp only[go_sem]|simp (disch:=first|exact oa|fail) only[AX]|refine wki ?_|refine wqn ?_|refine vpx [] ?_)
 refine vf_of (nat_Trim ys hy (by omega)) ?_;repeat (first|simp only[go_sem]|simp (disch:=first|exact oa|fail) only[AX]|refine wki ?_|refine wqn ?_|refine vpx [] ?_)
 refine vp_loop_inv (fun s => ∃a b:Nat,s.tmp 0 = .sv (natV (lim a))/\s.tmp 1 = .sv (natV (lim b))/\(lim a).length<=536870912/\(lim b).length<=536870912/\Nat.gcd a b=Nat.gcd (wth xs) (wth ys))
  (fun s=>match s.tmp 1 with | .sv (.sl _ cs)=>(match decL cs with|some l=>wth l|none=>0)|_=>0) ⟨_,_,rfl,rfl,by omega,by omega,rfl⟩ ?_
 rintro s ⟨a,b,i0,i1,la,lb,hg⟩
 by_cases hb:b=0
 ·subst hb
  rw[lim_zero]at i1
  rw[<- hg,Nat.gcd_zero_right]
  repeat (first|simp only[go_sem,i0,i1]|simp (disch:=first|exact oa|fail) only[AX,i0,i1]|refine wki ?_|refine wqn ?_|refine vpx [] ?_)
 ·have h1:0<(lim b).length:=List.length_pos_iff.2 (fun h=>hb (lim_eq_nil.1 h))
  repeat (first|simp only[go_sem,i0,i1]|simp (disch:=first|exact oa|fail) only[AX,i0,i1]|refine wki ?_|refine wqn ?_|refine vpx [] ?_)
  refine vf_of (nat_DivMod (lim a) (lim b) (okL_lim a) (okL_lim b) la lb) ?_;repeat (first|simp only[go_sem,i0,i1]|simp (disch:=first|exact oa|fail) only[AX,i0,i1]|refine wki ?_|refine wqn ?_|refine vpx [] ?_)
  have e1:remN (wth (lim a)) (wth (lim b))=a%b:=by rw[wth_lim,wth_lim];exact if_neg hb
  rw[e1,decL_map (okL_lim _),decL_map (okL_lim _)]
  dsimp only
  rw[wth_lim,wth_lim]
  have h2:a%b<b:=Nat.mod_lt _ (by omega)
  have h3:=trimL_length (okL_lim (a%b)) (okL_lim b) (trimL_lim _) (by rw[wth_lim,wth_lim];omega)
  refine⟨⟨b,a%b,rfl,rfl,lb,by omega,?_⟩,h2⟩
  rw[<- hg,Nat.gcd_comm b,<- Nat.gcd_rec,Nat.gcd_comm]
end Go.Proofs.YtcfjiolldehegaaGreatDoor
namespace Go.Proofs.YtcfjiolldehegaaGreatDoor
open Go.Ev
theorem lim_two {v:Nat}:(lim v).length<=2↔v<18446744073709551616:=by
 constructor
 ·intro h
  have h1:=wth_lt (okL_lim v)
  rw[wth_lim]at h1
  exact Nat.lt_of_lt_of_le h1 (Nat.pow_le_pow_right (n:=4294967296) (by omega) h)
 ·intro h
  have h1:=trimL_length (xs:=lim v) (ys:=[v%4294967296,v/4294967296]) (okL_lim v) (by simp[okL];omega) (trimL_lim v) (by rw[wth_lim];simp only[wth];omega)
  exact h1
end Go.Proofs.YtcfjiolldehegaaGreatDoor
namespace Go.Proofs.YtcfjiolldehegaaGreatDoor
open Go.Ev
end Go.Proofs.YtcfjiolldehegaaGreatDoor
namespace Go.Proofs.YtcfjiolldehegaaGreatDoor
open Go.Ev
end Go.Proofs.YtcfjiolldehegaaGreatDoor
namespace Go.Proofs.YtcfjiolldehegaaGreatDoor
open Go.Ev
end Go.Proofs.YtcfjiolldehegaaGreatDoor
namespace Go.Proofs.YtcfjiolldehegaaGreatDoor
open Go.Ev
end Go.Proofs.YtcfjiolldehegaaGreatDoor
namespace Go.Proofs.YtcfjiolldehegaaGreatDoor
open Go.Ev
attribute [go_sem] List.head?_cons List.head?_nil
theorem nat_GcdL {N D:Nat} (hl:(lim N).length<=536870912) (hm:(lim D).length<=536870912):Go.Ev.Fn CX 257 [natV (lim N),natV (lim D)] (natV (lim (N.gcd D))):=by
 have h:=nat_Gcd (lim N) (lim D) (okL_lim _) (okL_lim _) hl hm
 rwa [wth_lim,wth_lim]at h
theorem nat_DivL {N D:Nat} (hD:D≠0) (hl:(lim N).length<=536870912) (hm:(lim D).length<=536870912):Go.Ev.Fn CX 258 [natV (lim N),natV (lim D)] (.tup [natV (lim (N/D)),natV (lim (N%D)),.bool true]):=by
 have h:=nat_DivMod (lim N) (lim D) (okL_lim _) (okL_lim _) hl hm
 rwa [wth_lim,wth_lim,show remN N D=N%D from if_neg hD,decide_eq_true hD]at h
theorem nat_MulL {N D:Nat} (hl:(lim N).length<=536870912) (hm:(lim D).length<=536870912):Go.Ev.Fn CX 149 [natV (lim N),natV (lim D)] (natV (lim (N*D))):=by
 have h:=nat_Mul (lim N) (lim D) (okL_lim _) (okL_lim _) (by omega) (by omega)
 rwa [wth_lim,wth_lim]at h
theorem nat_AddL {N D:Nat} (hl:(lim N).length<=536870912) (hm:(lim D).length<=536870912):Go.Ev.Fn CX 176 [natV (lim N),natV (lim D)] (natV (lim (N+D))):=by
 have h:=nat_Add (lim N) (lim D) (okL_lim _) (okL_lim _) (by omega) (by omega)
 rwa [wth_lim,wth_lim]at h
theorem nat_SubL {N D:Nat} (hl:(lim N).length<=536870912) (hm:(lim D).length<=536870912):Go.Ev.Fn CX 76 [natV (lim N),natV (lim D)] (.tup [natV (lim (N-D)),.bool (decide (D<=N))]):=by
 have h:=nat_Sub (lim N) (lim D) (okL_lim _) (okL_lim _) (by omega) (by omega)
 rw[wth_lim,wth_lim]at h
 by_cases hlt:N<D
 ·rw[if_pos hlt]at h
  rwa [show N-D=0 by omega,lim_zero,decide_eq_false (by omega)]
 ·rw[if_neg hlt]at h
  rwa [decide_eq_true (by omega:D<=N)]
theorem nat_CmpL {N D:Nat} (hl:(lim N).length<=536870912) (hm:(lim D).length<=536870912):Go.Ev.Fn CX 96 [natV (lim N),natV (lim D)] (.int .i64 (cmpN N D)):=by
 have h:=nat_Cmp (lim N) (lim D) (okL_lim _) (okL_lim _) (by omega) (by omega)
 rwa [wth_lim,wth_lim]at h
theorem lim_pos {N:Nat} (h:N≠0):0<(lim N).length:=List.length_pos_iff.2 (fun e=>h (lim_eq_nil.1 e))
theorem rat_Of (s:Bool) (n d:List Nat) (hn:okL n) (hd:okL d) (hl:n.length<=536870912) (hm:d.length<=536870912) :
  Go.Ev.Fn CX 177 [.bool s,natV n,natV d] (rv (mkRat (sgn s (wth n)) (wth d))):=by
 refine fni Tryz.f177 ?_;unfold Tryz.f177;simp only[Option.get!_some]
 have lx:=lim_length_le hn
 have ly:=lim_length_le hd
 repeat (first|simp only[go_sem]|simp (disch:=first|exact oa|fail) only[AX]|refine wki ?_|refine wqn ?_|refine vpx [] ?_)
 refine vf_of (nat_Trim n hn (by omega)) ?_;repeat (first|simp only[go_sem]|simp (disch:=first|exact oa|fail) only[AX]|refine wki ?_|refine wqn ?_|refine vpx [] ?_)
 refine vf_of (nat_Trim d hd (by omega)) ?_;repeat (first|simp only[go_sem]|simp (disch:=first|exact oa|fail) only[AX]|refine wki ?_|refine wqn ?_|refine vpx [] ?_)
 generalize wth n=N at *
 generalize wth d=D at *
 have oN:=okL_lim N
 have oD:=okL_lim D
 by_cases h:N=0\/D=0
 ·rw[mk_zero s h,rv_zero]
  have o1:=nat_Of 1 (by omega)
  rw[lim_one]at o1
  by_cases hN:N=0
  ·have h0:(lim N).length=0:=by rw[hN,lim_zero];rfl
   repeat (first|simp only[go_sem]|simp (disch:=first|exact oa|fail) only[AX]|refine wki ?_|refine wqn ?_|refine vpx [] ?_|refine vf_of (by first|exact o1) ?_)
   rfl
  ·have h0:(lim D).length=0:=by rw[h.resolve_left hN,lim_zero];rfl
   have h1:=lim_pos hN
   repeat (first|simp only[go_sem]|simp (disch:=first|exact oa|fail) only[AX]|refine wki ?_|refine wqn ?_|refine vpx [] ?_|refine vf_of (by first|exact o1) ?_)
   rfl
 ·have hN:N≠0:=fun e=>h (.inl e)
  have hD:D≠0:=fun e=>h (.inr e)
  rw[mk_parts s hN hD]
  have h1:=lim_pos hN
  have h2:=lim_pos hD
  have hg:N.gcd D≠0:=Nat.ne_of_gt (Nat.gcd_pos_of_pos_left _ (by omega))
  have h3:=lim_len_mono (Nat.gcd_le_left D (by omega:0<N))
  repeat (first|simp only[go_sem]|simp (disch:=first|exact oa|fail) only[AX]|refine wki ?_|refine wqn ?_|refine vpx [] ?_)
  refine vf_of (nat_GcdL (by omega) (by omega)) ?_;repeat (first|simp only[go_sem]|simp (disch:=first|exact oa|fail) only[AX]|refine wki ?_|refine wqn ?_|refine vpx [] ?_)
  refine vf_of (nat_DivL hg (by omega) (by omega)) ?_;repeat (first|simp only[go_sem]|simp (disch:=first|exact oa|fail) only[AX]|refine wki ?_|refine wqn ?_|refine vpx [] ?_)
  refine vf_of (nat_DivL hg (by omega) (by omega)) ?_;repeat (first|simp only[go_sem]|simp (disch:=first|exact oa|fail) only[AX]|refine wki ?_|refine wqn ?_|refine vpx [] ?_)
theorem rat_Norm {v:SV} {q:Rat} {L:Nat} (h:RatA v q L) (hL:L<=536870912):Go.Ev.Fn CX 93 [v] (rv q):=by
 obtain⟨s,n,d,rfl,hn,hd,hl,hm,rfl⟩:=h
 refine fni Tryz.f93 ?_;unfold Tryz.f93;simp only[Option.get!_some]
 repeat (first|simp only[go_sem]|simp (disch:=first|exact oa|fail) only[AX]|refine wki ?_|refine wqn ?_|refine vpx [] ?_)
 refine vf_of (rat_Of s n d hn hd (by omega) (by omega)) ?_;repeat (first|simp only[go_sem]|simp (disch:=first|exact oa|fail) only[AX]|refine wki ?_|refine wqn ?_|refine vpx [] ?_)
theorem int_u64 {n:Int} (h : -9223372036854775808<=n/\n<9223372036854775808):IntKind.u64.wrap n=((if n<0 then 18446744073709551616-n.natAbs else n.natAbs:Nat):Int):=by
 rw[IntKind.wrap_u64]
 split<;>omega
theorem rat_Int (n:Int) (h : -9223372036854775808<=n/\n<9223372036854775808):Go.Ev.Fn CX 89 [.int .i64 n] (rv (n:Rat)):=by
 refine fni Tryz.f89 ?_;unfold Tryz.f89;simp only[Option.get!_some]
 have o1:=nat_Of 1 (by omega)
 have oN:=nat_Of n.natAbs (by omega)
 have e1:=int_u64 h
 show WP CX _ _ (RQ _ _ (ratV (decide (n<0)) (lim n.natAbs) (lim 1)))
 by_cases h0:n<0
 ·rw[if_pos h0]at e1
  have e2:IntKind.u64.wrap (0-((18446744073709551616-n.natAbs:Nat):Int))=(n.natAbs:Int):=by rw[IntKind.wrap_u64];omega
  repeat (first|simp only[go_sem,e1,e2]|simp (disch:=first|exact oa|fail) only[AX,e1,e2]|refine wki ?_|refine wqn ?_|refine vpx [] ?_|refine vf_of (by first|exact oN|exact o1) ?_)
 ·rw[if_neg h0]at e1
  repeat (first|simp only[go_sem,e1]|simp (disch:=first|exact oa|fail) only[AX,e1]|refine wki ?_|refine wqn ?_|refine vpx [] ?_|refine vf_of (by first|exact oN|exact o1) ?_)
end Go.Proofs.YtcfjiolldehegaaGreatDoor
namespace Go.Proofs.YtcfjiolldehegaaGreatDoor
open Go.Ev
theorem rat_OfL {s:Bool} {n d:Nat} (hl:(lim n).length<=536870912) (hm:(lim d).length<=536870912) :
  Go.Ev.Fn CX 177 [.bool s,natV (lim n),natV (lim d)] (rv (mkRat (sgn s n) d)):=by
 have h:=rat_Of s (lim n) (lim d) (okL_lim _) (okL_lim _) hl hm
 rwa [wth_lim,wth_lim]at h
theorem mul_parts (q r:Rat):mkRat (sgn (!(decide (q.num<0)==decide (r.num<0))) (q.num.natAbs*r.num.natAbs)) (q.den*r.den)=q*r:=by
 have h:=sgn_mul q.num r.num
 rw[show (!(decide (q.num<0)==decide (r.num<0)))=(decide (q.num<0) != decide (r.num<0)) from rfl,h,<- Rat.mkRat_mul_mkRat,Rat.mkRat_self,Rat.mkRat_self]
theorem rat_Mul {v w:SV} {q r:Rat} {L M:Nat} (hv:RatA v q L) (hw:RatA w r M) (hL:1<=L) (hM:1<=M) (h:L+M<=268435456):Go.Ev.Fn CX 146 [v,w] (rv (q*r)):=by
 have hnv:=rat_Norm hv (by omega)
 have hnw:=rat_Norm hw (by omega)
 obtain⟨z1,z2⟩:=szR_of hv hL
 obtain⟨y1,y2⟩:=szR_of hw hM
 have g1:=lim_len_mul (a:=q.num.natAbs) (b:=r.num.natAbs)
 have g2:=lim_len_mul (a:=q.den) (b:=r.den)
 have hOf:=rat_OfL (s := !(decide (q.num<0)==decide (r.num<0))) (n:=q.num.natAbs*r.num.natAbs) (d:=q.den*r.den) (by omega) (by omega)
 rw[mul_parts]at hOf
 obtain⟨s,n,d,rfl,-⟩:=hv
 obtain⟨s',n',d',rfl,-⟩:=hw
 refine fni Tryz.f146 ?_;unfold Tryz.f146;simp only[Option.get!_some]
 repeat (first|simp only[go_sem]|simp (disch:=first|exact oa|fail) only[AX]|refine wki ?_|refine wqn ?_|refine vpd 1 [] ?_|refine vpd 2 [15,17,20,22,18,23] ?_|refine vf_of (by first|exact hnv|exact hnw) ?_)
 refine vf_of (nat_MulL (by omega) (by omega)) ?_;repeat (first|simp only[go_sem]|simp (disch:=first|exact oa|fail) only[AX]|refine wki ?_|refine wqn ?_|refine vpd 1 [] ?_|refine vpd 2 [15,17,20,22,18,23] ?_)
 refine vf_of (nat_MulL (by omega) (by omega)) ?_;repeat (first|simp only[go_sem]|simp (disch:=first|exact oa|fail) only[AX]|refine wki ?_|refine wqn ?_|refine vpd 1 [] ?_|refine vpd 2 [15,17,20,22,18,23] ?_)
 refine vf_of (hOf) ?_;repeat (first|simp only[go_sem]|simp (disch:=first|exact oa|fail) only[AX]|refine wki ?_|refine wqn ?_|refine vpd 1 [] ?_|refine vpd 2 [15,17,20,22,18,23] ?_)
theorem sgn_mul_nat (s:Bool) (a b:Nat):sgn s a*(b:Int)=sgn s (a*b):=by
 unfold sgn
 split
 ·rw[Int.neg_mul,Int.natCast_mul]
 ·rw[Int.natCast_mul]
theorem add_parts (q r:Rat):q+r=mkRat (sgn (decide (q.num<0)) (q.num.natAbs*r.den)+sgn (decide (r.num<0)) (r.num.natAbs*q.den)) (q.den*r.den):=by
 conv=>lhs;rw[<- Rat.mkRat_self q,<- Rat.mkRat_self r,Rat.mkRat_add_mkRat _ _ q.den_nz r.den_nz]
 congr 1
 rw[<- sgn_mul_nat,<- sgn_mul_nat,sgn_self,sgn_self]
theorem add_same (q r:Rat) (h:decide (q.num<0)=decide (r.num<0)):mkRat (sgn (decide (q.num<0)) (q.num.natAbs*r.den+r.num.natAbs*q.den)) (q.den*r.den)=q+r:=by
 rw[add_parts,<- h]
 congr 1
 unfold sgn
 split<;>omega
theorem add_ge (q r:Rat) (h : ¬decide (q.num<0)=decide (r.num<0)) (h2:r.num.natAbs*q.den<=q.num.natAbs*r.den):mkRat (sgn (decide (q.num<0)) (q.num.natAbs*r.den-r.num.natAbs*q.den)) (q.den*r.den)=q+r:=by
 rw[add_parts]
 congr 1
 have e:decide (r.num<0) = !decide (q.num<0):=by
  revert h
  cases decide (q.num<0)<;>cases decide (r.num<0)<;>simp
 rw[e]
 generalize q.num.natAbs*r.den=X at *
 generalize r.num.natAbs*q.den=Y at *
 unfold sgn
 cases decide (q.num<0)
 ·simp;omega
 ·simp;omega
theorem add_lt (q r:Rat) (h : ¬decide (q.num<0)=decide (r.num<0)) (h2:q.num.natAbs*r.den<r.num.natAbs*q.den):mkRat (sgn (decide (r.num<0)) (r.num.natAbs*q.den-q.num.natAbs*r.den)) (q.den*r.den)=q+r:=by
 have h3:=add_ge r q (fun e=>h e.symm) (Nat.le_of_lt h2)
 rw[Nat.mul_comm r.den,Rat.add_comm r q]at h3
 exact h3
theorem beq_bool (a b:Bool):(a==b)=decide (a=b):=by cases a<;>cases b<;>rfl
theorem lim_len_add2 {a b L:Nat} (ha:(lim a).length<=L) (hb:(lim b).length<=L):(lim (a+b)).length<=L+1:=lim_len_add ha hb
theorem rat_Add {v w:SV} {q r:Rat} {L M:Nat} (hv:RatA v q L) (hw:RatA w r M) (hL:1<=L) (hM:1<=M) (h:L+M<=268435456):Go.Ev.Fn CX 117 [v,w] (rv (q+r)):=by
 have hnv:=rat_Norm hv (by omega)
 have hnw:=rat_Norm hw (by omega)
 obtain⟨z1,z2⟩:=szR_of hv hL
 obtain⟨y1,y2⟩:=szR_of hw hM
 have g1:=lim_len_mul (a:=q.num.natAbs) (b:=r.den)
 have g2:=lim_len_mul (a:=r.num.natAbs) (b:=q.den)
 have g3:=lim_len_mul (a:=q.den) (b:=r.den)
 have g4:=lim_len_add2 (a:=q.num.natAbs*r.den) (b:=r.num.natAbs*q.den) (L:=L+M) (by omega) (by omega)
 have g5:=lim_len_mono (Nat.sub_le (q.num.natAbs*r.den) (r.num.natAbs*q.den))
 have g6:=lim_len_mono (Nat.sub_le (r.num.natAbs*q.den) (q.num.natAbs*r.den))
 obtain⟨s,n,d,rfl,-⟩:=hv
 obtain⟨s',n',d',rfl,-⟩:=hw
 have hbb:=beq_bool (decide (q.num<0)) (decide (r.num<0))
 refine fni Tryz.f117 ?_;unfold Tryz.f117;simp only[Option.get!_some]
 repeat (first|simp only[go_sem]|simp (disch:=first|exact oa|fail) only[AX]|refine wki ?_|refine wqn ?_|refine vpd 1 [] ?_|refine vpd 2 [17,19,22,24,27,29] ?_|refine vpd 4 [5,6,40,7] ?_|refine vf_of (by first|exact hnv|exact hnw) ?_)
 refine vf_of (nat_MulL (by omega) (by omega)) ?_;repeat (first|simp only[go_sem]|simp (disch:=first|exact oa|fail) only[AX]|refine wki ?_|refine wqn ?_|refine vpd 1 [] ?_|refine vpd 2 [17,19,22,24,27,29] ?_|refine vpd 4 [5,6,40,7] ?_)
 refine vf_of (nat_MulL (by omega) (by omega)) ?_;repeat (first|simp only[go_sem]|simp (disch:=first|exact oa|fail) only[AX]|refine wki ?_|refine wqn ?_|refine vpd 1 [] ?_|refine vpd 2 [17,19,22,24,27,29] ?_|refine vpd 4 [5,6,40,7] ?_)
 refine vf_of (nat_MulL (by omega) (by omega)) ?_;repeat (first|simp only[go_sem,hbb]|simp (disch:=first|exact oa|fail) only[AX,hbb]|refine wki ?_|refine wqn ?_|refine vpd 1 [] ?_|refine vpd 2 [17,19,22,24,27,29] ?_|refine vpd 4 [5,6,40,7] ?_)
 by_cases hs:decide (q.num<0)=decide (r.num<0)
 ·have hOf:=rat_OfL (s:=decide (q.num<0)) (n:=q.num.natAbs*r.den+r.num.natAbs*q.den) (d:=q.den*r.den) (by omega) (by omega)
  rw[add_same q r hs]at hOf
  rw[decide_eq_true hs]
  repeat (first|simp only[go_sem]|simp (disch:=first|exact oa|fail) only[AX]|refine wki ?_|refine wqn ?_|refine vpd 1 [] ?_|refine vpd 2 [17,19,22,24,27,29] ?_|refine vpd 4 [5,6,40,7] ?_)
  refine vf_of (nat_AddL (by omega) (by omega)) ?_;repeat (first|simp only[go_sem]|simp (disch:=first|exact oa|fail) only[AX]|refine wki ?_|refine wqn ?_|refine vpd 1 [] ?_|refine vpd 2 [17,19,22,24,27,29] ?_|refine vpd 4 [5,6,40,7] ?_)
  refine vf_of (hOf) ?_;repeat (first|simp only[go_sem]|simp (disch:=first|exact oa|fail) only[AX]|refine wki ?_|refine wqn ?_|refine vpd 1 [] ?_|refine vpd 2 [17,19,22,24,27,29] ?_|refine vpd 4 [5,6,40,7] ?_)
 ·rw[decide_eq_false hs]
  repeat (first|simp only[go_sem]|simp (disch:=first|exact oa|fail) only[AX]|refine wki ?_|refine wqn ?_|refine vpd 1 [] ?_|refine vpd 2 [17,19,22,24,27,29] ?_|refine vpd 4 [5,6,40,7] ?_)
  refine vf_of (nat_SubL (by omega) (by omega)) ?_;repeat (first|simp only[go_sem]|simp (disch:=first|exact oa|fail) only[AX]|refine wki ?_|refine wqn ?_|refine vpd 1 [] ?_|refine vpd 2 [17,19,22,24,27,29] ?_|refine vpd 4 [5,6,40,7] ?_)
  by_cases h2:r.num.natAbs*q.den<=q.num.natAbs*r.den
  ·have hOf:=rat_OfL (s:=decide (q.num<0)) (n:=q.num.natAbs*r.den-r.num.natAbs*q.den) (d:=q.den*r.den) (by omega) (by omega)
   rw[add_ge q r hs h2]at hOf
   rw[decide_eq_true h2]
   repeat (first|simp only[go_sem]|simp (disch:=first|exact oa|fail) only[AX]|refine wki ?_|refine wqn ?_|refine vpd 1 [] ?_|refine vpd 2 [17,19,22,24,27,29] ?_|refine vpd 4 [5,6,40,7] ?_|refine vf_of (by first|exact hOf) ?_)
  ·have hOf:=rat_OfL (s:=decide (r.num<0)) (n:=r.num.natAbs*q.den-q.num.natAbs*r.den) (d:=q.den*r.den) (by omega) (by omega)
   rw[add_lt q r hs (by omega)]at hOf
   rw[decide_eq_false h2]
   repeat (first|simp only[go_sem]|simp (disch:=first|exact oa|fail) only[AX]|refine wki ?_|refine wqn ?_|refine vpd 1 [] ?_|refine vpd 2 [17,19,22,24,27,29] ?_|refine vpd 4 [5,6,40,7] ?_)
   refine vf_of (nat_SubL (by omega) (by omega)) ?_;repeat (first|simp only[go_sem]|simp (disch:=first|exact oa|fail) only[AX]|refine wki ?_|refine wqn ?_|refine vpd 1 [] ?_|refine vpd 2 [17,19,22,24,27,29] ?_|refine vpd 4 [5,6,40,7] ?_)
   refine vf_of (hOf) ?_;repeat (first|simp only[go_sem]|simp (disch:=first|exact oa|fail) only[AX]|refine wki ?_|refine wqn ?_|refine vpd 1 [] ?_|refine vpd 2 [17,19,22,24,27,29] ?_|refine vpd 4 [5,6,40,7] ?_)
theorem neg_parts (q:Rat):rv (-q)=ratV (!decide (q.num<0)&&decide (0<(lim q.num.natAbs).length)) (lim q.num.natAbs) (lim q.den):=by
 show ratV (decide ((-q).num<0)) (lim (-q).num.natAbs) (lim (-q).den)=_
 rw[Rat.neg_num,Rat.neg_den,Int.natAbs_neg]
 congr 3
 by_cases h:q.num=0
 ·rw[h];rfl
 ·have h1:=lim_pos (N:=q.num.natAbs) (by omega)
  rw[decide_eq_true h1,Bool.and_true]
  by_cases h2:q.num<0
  ·rw[decide_eq_true h2,decide_eq_false (by omega)];rfl
  ·rw[decide_eq_false h2,decide_eq_true (by omega)];rfl
theorem rat_signed (s t:Bool) (n d:List Nat) (hn:n.length<=1099511627776):Go.Ev.Fn CX 248 [.bool s,ratV t n d] (ratV (s&&decide (0<n.length)) n d):=by
 refine fni Tryz.f248 ?_;unfold Tryz.f248;simp only[Option.get!_some]
 cases s
 ·repeat (first|simp only[go_sem]|simp (disch:=first|exact oa|fail) only[AX]|refine wki ?_|refine wqn ?_)
  rfl
 ·by_cases h:0<n.length
  ·rw[decide_eq_true h]
   repeat (first|simp only[go_sem]|simp (disch:=first|exact oa|fail) only[AX]|refine wki ?_|refine wqn ?_)
  ·rw[decide_eq_false h]
   repeat (first|simp only[go_sem]|simp (disch:=first|exact oa|fail) only[AX]|refine wki ?_|refine wqn ?_)
theorem rat_Neg {v:SV} {q:Rat} {L:Nat} (hv:RatA v q L) (hL:1<=L) (h:L<=268435456):Go.Ev.Fn CX 172 [v] (rv (-q)):=by
 have hnv:=rat_Norm hv (by omega)
 obtain⟨z1,z2⟩:=szR_of hv hL
 have hs:=rat_signed (!decide (q.num<0)) (decide (q.num<0)) (lim q.num.natAbs) (lim q.den) (by omega)
 rw[<- neg_parts]at hs
 obtain⟨s,n,d,rfl,-⟩:=hv
 refine fni Tryz.f172 ?_;unfold Tryz.f172;simp only[Option.get!_some]
 repeat (first|simp only[go_sem]|simp (disch:=first|exact oa|fail) only[AX]|refine wki ?_|refine wqn ?_|refine vf_of (by first|exact hnv|exact hs) ?_)
theorem szR_neg {q:Rat} {L:Nat} (h:szR q L):szR (-q) L:=by
 unfold szR
 rw[Rat.neg_num,Rat.neg_den,Int.natAbs_neg]
 exact h
theorem rat_Sub {v w:SV} {q r:Rat} {L M:Nat} (hv:RatA v q L) (hw:RatA w r M) (hL:1<=L) (hM:1<=M) (h:L+M<=268435456):Go.Ev.Fn CX 156 [v,w] (rv (q-r)):=by
 have hN:=rat_Neg hw hM (by omega)
 have hA:=rat_Add hv (RatA_rv (szR_neg (szR_of hw hM))) hL hM h
 rw[<- Rat.sub_eq_add_neg]at hA
 obtain⟨s,n,d,rfl,-⟩:=hv
 obtain⟨s',n',d',rfl,-⟩:=hw
 refine fni Tryz.f156 ?_;unfold Tryz.f156;simp only[Option.get!_some]
 repeat (first|simp only[go_sem]|simp (disch:=first|exact oa|fail) only[AX]|refine wki ?_|refine wqn ?_|refine vpd 1 [] ?_|refine vf_of (by first|exact hN|exact hA) ?_)
theorem num_zero {q:Rat}:q.num=0↔q=0:=Rat.num_eq_zero
theorem div_parts {q r:Rat} (hr:r≠0):q/r=q*mkRat (sgn (decide (r.num<0)) r.den) r.num.natAbs:=by
 rw[Rat.div_def]
 congr 1
 rw[Rat.inv_def]
 have h0:r.num≠0:=fun e=>hr (num_zero.1 e)
 by_cases h:r.num<0
 ·rw[decide_eq_true h]
  obtain⟨k,hk⟩ : ∃k:Nat,r.num=Int.negSucc k:=⟨r.num.natAbs-1,by omega⟩
  rw[hk,show (Int.negSucc k).natAbs=k+1 from rfl]
  show Rat.normalize (-(r.den:Int)) (k+1) (Nat.succ_ne_zero k)=mkRat (-(r.den:Int)) (k+1)
  rw[Rat.normalize_eq_mkRat]
 ·rw[decide_eq_false h]
  obtain⟨m,hm⟩ : ∃m:Nat,r.num=(m:Int):=⟨r.num.natAbs,by omega⟩
  rw[hm,Int.natAbs_natCast,Rat.divInt_ofNat]
  rfl
theorem rat_Div {v w:SV} {q r:Rat} {L M:Nat} (hv:RatA v q L) (hw:RatA w r M) (hL:1<=L) (hM:1<=M) (h:L+M<=268435456):Go.Ev.Fn CX 144 [v,w] (.tup [rv (q/r),.bool (decide (r≠0))]):=by
 have hnw:=rat_Norm hw (by omega)
 obtain⟨y1,y2⟩:=szR_of hw hM
 have h0:=rat_Int 0 (by omega)
 have hMul:r≠0->_:=fun hr=>rat_Mul (w:=ratV (decide (r.num<0)) (lim r.den) (lim r.num.natAbs)) hv ⟨_,_,_,rfl,okL_lim _,okL_lim _,y2,y1,by rw[wth_lim,wth_lim]⟩ hL hM h
 obtain⟨s,n,d,rfl,-⟩:=hv
 obtain⟨s',n',d',rfl,-⟩:=hw
 refine fni Tryz.f144 ?_;unfold Tryz.f144;simp only[Option.get!_some]
 by_cases hr:r=0
 ·have hl:(lim r.num.natAbs).length=0:=by rw[num_zero.2 hr];simp[lim_zero]
  rw[decide_eq_false (fun e=>e hr),hr,Rat.div_def,Rat.inv_zero,Rat.mul_zero]
  subst hr
  repeat (first|simp only[go_sem]|simp (disch:=first|exact oa|fail) only[AX]|refine wki ?_|refine wqn ?_|refine vf_of (by first|exact hnw|exact h0) ?_)
  rfl
 ·have hl:=lim_pos (N:=r.num.natAbs) (fun e=>hr (num_zero.1 (by omega)))
  have hMul:=hMul hr
  rw[<- div_parts hr]at hMul
  rw[decide_eq_true hr]
  repeat (first|simp only[go_sem]|simp (disch:=first|exact oa|fail) only[AX]|refine wki ?_|refine wqn ?_|refine vf_of (by first|exact hnw|exact hMul) ?_)
end Go.Proofs.YtcfjiolldehegaaGreatDoor
namespace Go.Proofs.YtcfjiolldehegaaGreatDoor
open Go.Ev
end Go.Proofs.YtcfjiolldehegaaGreatDoor
namespace Go.Proofs.YtcfjiolldehegaaGreatDoor
open Go.Ev
theorem szR_zero {L:Nat} (h:1<=L):szR 0 L:=⟨by rw[show (0:Rat).num.natAbs=0 by rfl,lim_zero];simp,by rw[show (0:Rat).den=1 by rfl,lim_one];exact h⟩
theorem szR_mul {q r:Rat} {L M:Nat} (h1:szR q L) (h2:szR r M) (hL:1<=L):szR (q*r) (L+M):=by
 rw[<- mul_parts]
 have g1:=lim_len_mul (a:=q.num.natAbs) (b:=r.num.natAbs)
 have g2:=lim_len_mul (a:=q.den) (b:=r.den)
 obtain⟨a1,a2⟩:=h1
 obtain⟨b1,b2⟩:=h2
 exact szR_mk (by omega) (by omega) (by omega)
theorem szR_add {q r:Rat} {L M:Nat} (h1:szR q L) (h2:szR r M) (hL:1<=L):szR (q+r) (L+M+1):=by
 have g1:=lim_len_mul (a:=q.num.natAbs) (b:=r.den)
 have g2:=lim_len_mul (a:=r.num.natAbs) (b:=q.den)
 have g3:=lim_len_mul (a:=q.den) (b:=r.den)
 obtain⟨a1,a2⟩:=h1
 obtain⟨b1,b2⟩:=h2
 have g4:=lim_len_add2 (a:=q.num.natAbs*r.den) (b:=r.num.natAbs*q.den) (L:=L+M) (by omega) (by omega)
 have e:q+r=mkRat (sgn (decide (sgn (decide (q.num<0)) (q.num.natAbs*r.den)+sgn (decide (r.num<0)) (r.num.natAbs*q.den)<0)) (sgn (decide (q.num<0)) (q.num.natAbs*r.den)+sgn (decide (r.num<0)) (r.num.natAbs*q.den)).natAbs) (q.den*r.den):=by
  rw[sgn_self];exact add_parts q r
 rw[e]
 refine szR_mk (Nat.le_trans (lim_len_mono ?_) g4) (by omega) (by omega)
 have:=Int.natAbs_add_le (sgn (decide (q.num<0)) (q.num.natAbs*r.den)) (sgn (decide (r.num<0)) (r.num.natAbs*q.den))
 rw[sgn_abs,sgn_abs]at this
 exact this
theorem szR_sub {q r:Rat} {L M:Nat} (h1:szR q L) (h2:szR r M) (hL:1<=L):szR (q-r) (L+M+1):=by
 rw[Rat.sub_eq_add_neg]
 exact szR_add h1 (szR_neg h2) hL
theorem szR_div {q r:Rat} {L M:Nat} (h1:szR q L) (h2:szR r M) (hL:1<=L) (hM:1<=M):szR (q/r) (L+M):=by
 by_cases hr:r=0
 ·rw[hr,Rat.div_def,Rat.inv_zero,Rat.mul_zero]
  exact szR_zero (by omega)
 ·rw[div_parts hr]
  exact szR_mul h1 (szR_mk h2.2 h2.1 hM) hL
end Go.Proofs.YtcfjiolldehegaaGreatDoor
namespace Go.Proofs.YtcfjiolldehegaaGreatDoor
open Go.Ev
theorem int_szR {n:Int} (h : -9223372036854775808<=n/\n<=9223372036854775808):szR (n:Rat) 2:=by
 refine⟨?_,?_⟩
 ·show (lim n.natAbs).length<=2
  exact lim_two.2 (by omega)
 ·show (lim 1).length<=2
  rw[lim_one];simp
end Go.Proofs.YtcfjiolldehegaaGreatDoor
