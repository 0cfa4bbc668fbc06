/- Part 4 of the proof: the evaluator, contracts of functions and their plain laws (joined by program). No condition. -/
import Derived.Test.YtfknkoeagjonbaaGreatPart3
import Derived.KernelRfl
set_option linter.unusedVariables false
set_option linter.unusedSimpArgs false
set_option maxRecDepth 100000
namespace Go.Proofs.YtfknkoeagjonbaaGreat
open Go.Ev
def seg (c:List Nat) (i k:Nat):Nat:=wth ((c.drop i).take k)
theorem seg_zero (c:List Nat) (i:Nat):seg c i 0=0:=by simp[seg,wth]
theorem seg_succ (c:List Nat) (i k:Nat):seg c i (k+1)=seg c i k+4294967296^k*c.getD (i+k) 0:=by
 unfold seg;rw[wth_take_succ];congr 2;simp[xW,ye]
theorem seg_set_ge (c:List Nat) {i k j v:Nat} (h:i+k<=j):seg (c.set j v) i k=seg c i k:=by
 unfold seg;congr 1;refine List.ext_getElem? fun n => ?_
 rw[List.getElem?_take,List.getElem?_take];split
 ·rw[ye,ye,List.getElem?_set_ne (by omega)]
 ·rfl
theorem seg_lt {c:List Nat} (h:okL c) (i k:Nat):seg c i k<4294967296^k:=by
 unfold seg;have h1:=wth_lt (okL_take (okL_drop h i) k);refine xz h1 (xD (by omega) ?_);rw[yO];exact Nat.min_le_left _ _
theorem seg_set_self (c:List Nat) {i k v:Nat} (h:i+k<c.length:=by omega):seg (c.set (i+k) v) i (k+1)=seg c i k+4294967296^k*v:=by
 rw[seg_succ,seg_set_ge c (xQ _),getD_set_self h]
theorem exp_takes {s:St} {cs ds:List SV} {o1 n1 o2 n2:Nat} {x:SV}:expOf s [.impref cs 1 o1 n1,.impref ds 1 o2 n2,.sv x]=[s.obj 1000000 0,s.obj 1000001 0,none]:=rfl
theorem sub_limb {u y w:Nat} (hu:u<4294967296) (hy:y<4294967296) (hw:w<=1) :
  ((u+(4294967296-y))%4294967296+(4294967296-w))%4294967296+y+w=u+4294967296*(if u<y+w then 1 else 0):=by
 split<;>omega
def Takes (us ds:List Nat) (i x:Nat) (us':List Nat) (b:Bool):Prop:=
 us'.length=us.length/\okL us'/\(∀j,j<i\/i+ds.length<j->us'.getD j 0=us.getD j 0) /\
  (x*wth ds<=seg us i (ds.length+1)->b=false/\seg us' i (ds.length+1)+x*wth ds=seg us i (ds.length+1)) /\
  (seg us i (ds.length+1)<x*wth ds->x*wth ds<=seg us i (ds.length+1)+wth ds->b=true/\seg us' i (ds.length+1)+x*wth ds=seg us i (ds.length+1)+wth ds)
theorem takes_fn (us ds:List Nat) (i x:Nat) (hu:okL us) (hd:okL ds) (hi:i+ds.length<us.length) (hul:us.length<=274877906944) (hx:x<=4294967295) :
  ∃r exps,(∃us' b,Takes us ds i x us' b/\r = .bool b/\exps=[some (us'.map limb),some (ds.map limb),none]) /\
   FnI CX 277 [.impref (us.map limb) 1 i (ds.length+1),.impref (ds.map limb) 1 0 ds.length,.sv (.int .u64 x)] r exps:=by
 refine FnI_of (fn:=Tryz.f277) (body:=(Tryz.f277).body.get!) (by kernel_rfl) (by kernel_rfl) (by kernel_rfl) (fun _=>rfl) (xj (by kernel_rfl)) ?_;unfold Tryz.f277;simp only[Option.get!_some,exp_takes];repeat (first|simp only[go_sem,N0]|simp (disch:=first|exact omg|fail) only[AX,N0]|refine wki ?_)
 refine vp_loop_inv (fun s'=>s'.tmp 0 = .ref 1000000 0 1 i (ds.length+1)/\s'.tmp 1 = .ref 1000001 0 1 0 ds.length/\s'.tmp 2 = .sv (.int .u64 x)/\s'.obj 1000001 0=some (ds.map limb)/\s'.tmp 14 = .ref 1000001 0 1 0 ds.length/\s'.tmp 15 = .sv (.int .i64 ds.length) /\
   ∃c:List Nat,∃k carry w:Nat,s'.obj 1000000 0=some (c.map limb)/\s'.tmp 16 = .sv (.int .i64 k)/\s'.tmp 7 = .sv (.int .u64 carry)/\s'.tmp 8 = .sv (limb w)/\c.length=us.length/\okL c/\k<=ds.length/\carry<4294967296/\w<=1 /\
    (∀j,j<i\/i+k<=j->c.getD j 0=us.getD j 0)/\seg c i k+x*wth (ds.take k)=seg us i k+4294967296^k*(carry+w))
  (fun s=>match s.tmp 16 with | .sv (.int _ i)=>ds.length-i.toNat|_=>0) ?_ ?_
 ·refine⟨rfl,rfl,rfl,rfl,rfl,rfl,us,0,0,0,rfl,rfl,rfl,rfl,rfl,hu,by omega,by omega,by omega,fun _ _=>rfl,?_⟩;simp[seg_zero,wth]
 rintro s' ⟨i0,i1,i2,iD,i14,i15,c,k,carry,w,iO,i16,i7,i8,hc,hok,hk,hcar,hw,hsame,hv⟩
 have e10:(1000001:Nat)≠1000000:=by decide
 by_cases hend:k=ds.length
 ·subst hend;have h2:=getD_lt hok (i+ds.length);have hs0:=hsame (i+ds.length) (.inr (xQ _));rw[xq (xQ _)]at hv;generalize huk:c.getD (i+ds.length) 0=u at *
  have hsl:=sub_limb h2 hcar hw;repeat (first|simp only[go_sem,i0,i1,i2,iD,i14,i15,iO,i16,i7,i8,huk]|simp (disch:=first|exact omg|fail) only[AX,i0,i1,i2,iD,i14,i15,iO,i16,i7,i8,huk]|refine wki ?_|refine vpx [] ?_)
  refine vf_of (bits_Sub32 u carry w h2 hcar hw) ?_;repeat (first|simp only[go_sem,i0,i1,i2,iD,i14,i15,iO,i16,i7,i8,huk]|simp (disch:=first|exact omg|fail) only[AX,i0,i1,i2,iD,i14,i15,iO,i16,i7,i8,huk]|refine wki ?_|refine vpx [] ?_)
  have hv' : ∃v,((u+(4294967296-carry))%4294967296+(4294967296-w))%4294967296=v:=⟨_,rfl⟩
  obtain⟨v,hvv⟩:=hv';have hvl:v<4294967296:=by rw[<- hvv];exact yI _ (by omega)
  rw[hvv]at hsl ⊢;have hE:seg (c.set (i+ds.length) v) i (ds.length+1)+x*wth ds=seg us i (ds.length+1)+4294967296^(ds.length+1)*(if u<carry+w then 1 else 0):=by
   rw[seg_set_self c,seg_succ us,<- hs0];generalize (if u<carry+w then 1 else 0)=w' at *
   have e1:4294967296^ds.length*(carry+w)+4294967296^ds.length*v=4294967296^ds.length*u+4294967296^(ds.length+1)*w':=by
    rw[xU,xP,<- xY,<- xY];congr 1;omega
   omega
  have hc1:(c.set (i+ds.length) v).length=us.length:=by rw[yN];exact hc
  have hok1:okL (c.set (i+ds.length) v):=okL_set hok _ _ hvl;have hsame1 : ∀j,j<i\/i+ds.length<j->(c.set (i+ds.length) v).getD j 0=us.getD j 0:=fun j hj=>(getD_set_ne).trans (hsame j (by omega))
  generalize hc1':c.set (i+ds.length) v=c1 at *
  by_cases hb:u<carry+w
  ·rw[if_pos hb]at hE ⊢;have hgt:seg us i (ds.length+1)<x*wth ds:=by
    have:=seg_lt hok1 i (ds.length+1);omega
   clear hv hsl hs0 hb huk hvv hvl hsame hok hc;repeat (first|simp only[go_sem,i0,i1,i2,iD,i14,i15,iO,i16,i7,i8]|simp (disch:=first|exact omg|fail) only[AX,i0,i1,i2,iD,i14,i15,iO,i16,i7,i8]|refine wki ?_|refine vpx [] ?_)
   refine vp_loop_inv (fun s'=>s'.tmp 0 = .ref 1000000 0 1 i (ds.length+1)/\s'.tmp 1 = .ref 1000001 0 1 0 ds.length/\s'.obj 1000001 0=some (ds.map limb)/\s'.tmp 62 = .ref 1000001 0 1 0 ds.length/\s'.tmp 63 = .sv (.int .i64 ds.length) /\
     ∃c2:List Nat,∃k more:Nat,s'.obj 1000000 0=some (c2.map limb)/\s'.tmp 64 = .sv (.int .i64 k)/\s'.tmp 11 = .sv (limb more)/\c2.length=us.length/\okL c2/\k<=ds.length/\more<=1 /\
      (∀j,j<i\/i+k<=j->c2.getD j 0=c1.getD j 0)/\seg c2 i k+4294967296^k*more=seg c1 i k+wth (ds.take k))
    (fun s=>match s.tmp 64 with | .sv (.int _ i)=>ds.length-i.toNat|_=>0) ?_ ?_
   ·refine⟨i0,i1,iD,rfl,rfl,c1,0,0,rfl,rfl,rfl,hc1,hok1,by omega,by omega,fun _ _=>rfl,?_⟩
    ·simp[seg_zero,wth]
   clear i0 i1 i2 iD i14 i15 iO i16 i7 i8;rintro s2 ⟨j0,j1,jD,j62,j63,c2,k,more,jO,j64,j11,hc2,hok2,hk2,hmore,hsame2,hv2⟩
   by_cases hend2:k=ds.length
   ·subst hend2;have h3:=getD_lt hok2 (i+ds.length);have hs2:=hsame2 (i+ds.length) (.inr (xQ _));rw[xq (xQ _)]at hv2;generalize hak:c2.getD (i+ds.length) 0=a at *
    have hv' : ∃m,(a+more)%4294967296=m:=⟨_,rfl⟩
    obtain⟨m,hm⟩:=hv';have hml:m<4294967296:=by rw[<- hm];exact yI _ (by omega)
    have hmd:m+4294967296*((a+more)/4294967296)=a+more:=by rw[<- hm];omega
    have hmq:(a+more)/4294967296<=1:=by omega
    generalize (a+more)/4294967296=q at *
    repeat (first|simp only[go_sem,j0,j1,jD,j62,j63,jO,j64,j11,hak,hm]|simp (disch:=first|exact omg|fail) only[AX,j0,j1,jD,j62,j63,jO,j64,j11,hak,hm]|refine wki ?_|refine vpx [] ?_)
    refine⟨_,_,⟨c2.set (i+ds.length) m,true,⟨by rw[yN];exact hc2,okL_set hok2 _ _ hml,fun j hj=>(getD_set_ne).trans ((hsame2 j (by omega)).trans (hsame1 j hj)),fun h=>absurd h (by omega),fun _ hle=>⟨rfl,?_⟩⟩,rfl,rfl⟩,?_,rfl⟩
    ·have hE2:seg (c2.set (i+ds.length) m) i (ds.length+1)+4294967296^(ds.length+1)*q=seg c1 i (ds.length+1)+wth ds:=by
      rw[seg_set_self c2,seg_succ c1,<- hs2];have e1:4294967296^ds.length*m+4294967296^(ds.length+1)*q=4294967296^ds.length*a+4294967296^ds.length*more:=by
       rw[xU,xP,<- xY,<- xY,hmd]
      omega
     have hlt:=seg_lt (okL_set hok2 (i+ds.length) m hml) i (ds.length+1);rcases xo q with rfl|hq
     ·omega
     ·have:q=1:=by omega
      subst this;omega
    ·rfl
   ·have h1:=getD_lt hd k;have h2:=getD_lt hok2 (i+k);have hs2:=hsame2 (i+k) (.inr (xQ _));generalize hdk:ds.getD k 0=y at *
    generalize hak:c2.getD (i+k) 0=a at *
    repeat (first|simp only[go_sem,j0,j1,jD,j62,j63,jO,j64,j11,hdk,hak]|simp (disch:=first|exact omg|fail) only[AX,j0,j1,jD,j62,j63,jO,j64,j11,hdk,hak]|refine wki ?_|refine vpx [] ?_)
    refine vf_of (bits_Add32 a y more h2 h1) ?_;repeat (first|simp only[go_sem,j0,j1,jD,j62,j63,jO,j64,j11,hdk,hak]|simp (disch:=first|exact omg|fail) only[AX,j0,j1,jD,j62,j63,jO,j64,j11,hdk,hak]|refine wki ?_|refine vpx [] ?_)
    refine⟨⟨c2.set (i+k) ((a+y+more)%4294967296),k+1,(a+y+more)/4294967296,rfl,rfl,rfl,by rw[yN];exact hc2,okL_set hok2 _ _ (yI _ (by omega)),by omega,by omega,fun j hj=>(getD_set_ne).trans (hsame2 j (by omega)),?_⟩,by omega⟩;rw[seg_set_self c2,seg_succ c1,<- hs2,wth_take_succ,hdk];have e1:4294967296^k*((a+y+more)%4294967296)+4294967296^(k+1)*((a+y+more)/4294967296)=4294967296^k*a+(4294967296^k*y+4294967296^k*more):=by
     rw[xU,xP,<- xY,wE,<- xY,<- xY,zR]
    omega
  ·rw[if_neg hb,yX,yE]at hE;rw[if_neg hb];have hT:Takes us ds i x c1 false:=⟨hc1,hok1,hsame1,fun _=>⟨rfl,hE⟩,fun h=>absurd hE (Nat.ne_of_gt (xz h (Nat.le_add_left _ _)))⟩
   clear hv hsl hs0 hb huk hvv hvl hsame hok hc hE hc1 hok1 hsame1;repeat (first|simp only[go_sem,i0,i1,i2,iD,i14,i15,iO,i16,i7,i8]|simp (disch:=first|exact omg|fail) only[AX,i0,i1,i2,iD,i14,i15,iO,i16,i7,i8]|refine wki ?_|refine vpx [] ?_)
   exact⟨_,_,⟨c1,false,hT,rfl,rfl⟩,rfl,rfl⟩
 ·have h1:=getD_lt hd k;have h2:=getD_lt hok (i+k);have h4:=limb_mul (v:=x) (w:=ds.getD k 0) (by omega) h1;have hs0:=hsame (i+k) (.inr (xQ _));generalize hdk:ds.getD k 0=y at *
  generalize huk:c.getD (i+k) 0=u at *
  generalize hp:x*y=p at *
  have hP:(carry+p)%4294967296<4294967296:=yI _ (by omega);have hsl:=sub_limb h2 hP hw;repeat (first|simp only[go_sem,i0,i1,i2,iD,i14,i15,iO,i16,i7,i8,hdk,huk,hp]|simp (disch:=first|exact omg|fail) only[AX,i0,i1,i2,iD,i14,i15,iO,i16,i7,i8,hdk,huk,hp]|refine wki ?_|refine vpx [] ?_)
  refine vf_of (bits_Sub32 u ((carry+p)%4294967296) w h2 hP hw) ?_;repeat (first|simp only[go_sem,i0,i1,i2,iD,i14,i15,iO,i16,i7,i8,hdk,huk,hp]|simp (disch:=first|exact omg|fail) only[AX,i0,i1,i2,iD,i14,i15,iO,i16,i7,i8,hdk,huk,hp]|refine wki ?_|refine vpx [] ?_)
  have hv' : ∃v,((u+(4294967296-(carry+p)%4294967296))%4294967296+(4294967296-w))%4294967296=v:=⟨_,rfl⟩
  obtain⟨v,hvv⟩:=hv';have hvl:v<4294967296:=by rw[<- hvv];exact yI _ (by omega)
  rw[hvv]at hsl ⊢;refine⟨⟨c.set (i+k) v,k+1,(carry+p)/4294967296,if u<(carry+p)%4294967296+w then 1 else 0,rfl,rfl,rfl,rfl,by rw[yN];exact hc,okL_set hok _ _ hvl,by omega,by omega,by split<;>omega,fun j hj=>(getD_set_ne).trans (hsame j (by omega)),?_⟩,by omega⟩;rw[seg_set_self c,seg_succ us,<- hs0,wth_take_succ,hdk,xY x,ym x,hp];generalize (if u<(carry+p)%4294967296+w then 1 else 0)=w' at *
  have e1:4294967296^k*(carry+w)+(4294967296^k*v+4294967296^k*p)=4294967296^k*u+4294967296^(k+1)*((carry+p)/4294967296+w'):=by
   rw[xU,xP,<- xY,<- xY,<- xY];congr 1;omega
  omega
end Go.Proofs.YtfknkoeagjonbaaGreat
namespace Go.Ev
theorem long_guess {B M D U v u x:Nat} (hv:v*M<=D) (hv':D<(v+1)*M) (hu:u*M<=U) (hu':U<(u+1)*M) (hBM:B*M<=D) (hB:0<B) (hUD:U<D*B) (hv0:0<v)
  (hx1:x<=B-1) (hx2:x<=u/v) (hx3 : ∀q,q<=B-1->q<=u/v->q<=x):U/D<=x/\x*D<=U+D:=by
 have hM:0<M:=by
  rcases xo M with h|h
  ·subst h;omega
  ·exact h
 have hD:0<D:=xz (yu hB hM) hBM;constructor
 ·refine hx3 _ ?_ ?_
  ·have:U/D<B:=(yC hD).2 (by rw[xV];exact hUD);omega
  ·rw[Nat.le_div_iff_mul_le hv0];have h1:U/D*(v*M)<=U/D*D:=xI _ hv;have h2:U/D*D<=U:=wO _ _;have h3:U/D*v*M<(u+1)*M:=by rw[xP];omega
   have:=Nat.lt_of_mul_lt_mul_right h3;omega
 ·have h1:x*v<=u:=(Nat.le_div_iff_mul_le hv0).1 hx2;have h2:x*D<=x*((v+1)*M):=xI _ (zf hv');have h3:x*((v+1)*M)=x*v*M+x*M:=by rw[xZ,xe,xY,xP]
  have h4:x*v*M<=u*M:=xC _ h1;have h5:x*M<=B*M:=xC _ (by omega);omega
theorem long_step {P B D U low W A q us:Nat} (hA:A=D*(P*B*W)+us) (hus:us=U*P+low) (hlow:low<P) (hD:0<D) (hq:q=U/D) :
  A=D*(P*(q+B*W))+((U-q*D)*P+low)/\(U-q*D)*P+low<D*P:=by
 subst hq;have h1:U-U/D*D=U%D:=by
  have:=wE U D;rw[xV D]at this;omega
 rw[h1];constructor
 ·have h2:=wE U D;rw[hA,hus];have h3:U*P=U%D*P+D*(P*(U/D)):=by
   conv=>lhs;rw[<- h2]
   rw[xZ,xP,xV (U/D) P]
  rw[xY P,xY D,h3,xP P B W];omega
 ·have h2:U%D+1<=D:=yI _ hD;have h3:(U%D+1)*P<=D*P:=xC _ h2;rw[xZ,xe]at h3;omega
end Go.Ev
namespace Go.Proofs.YtfknkoeagjonbaaGreat
open Go.Ev
theorem tdiv32 (m:Nat):(m:Int).tdiv 32=((m/32:Nat):Int):=_root_.id rfl
theorem tmod32 (m:Nat):(m:Int).tmod 32=((m%32:Nat):Int):=_root_.id rfl
theorem shift_up (xs:List Nat) (m:Nat) (hx:okL xs) (hl:xs.length<=137438953472) (s:Int) (hs:s=(m:Int):=by omega) (hm:m<=4096:=by omega) :
  Go.Ev.Fn CX 88 [natV xs,.int .i64 s] (natV (lim (wth xs*2^m))):=by
 refine fni Tryz.f88 ?_;unfold Tryz.f88;have lx:=lim_length_le hx;subst hs;have e1:(if (-4096:Int)>(m:Int) then (-4096:Int) else (m:Int))=(m:Int):=if_neg (by omega);have e2:(if (4096:Int)<(m:Int) then (4096:Int) else (m:Int))=(m:Int):=if_neg (by omega);repeat (first|simp only[go_sem,e1,e2]|simp (disch:=first|exact omg|fail) only[AX,e1,e2]|refine wki ?_|refine vpx [] ?_)
 have ha:=okL_lim (wth xs);refine vf_of (nat_trim xs hx) ?_;repeat (first|simp only[go_sem,e1,e2,tdiv32,tmod32]|simp (disch:=first|exact omg|fail) only[AX,e1,e2,tdiv32,tmod32]|refine wki ?_)
 refine vpx [0] ?_;repeat (first|simp only[go_sem,tdiv32,tmod32]|simp (disch:=first|exact omg|fail) only[AX,tdiv32,tmod32]|refine wki ?_|refine vpx [] ?_)
 have va:=wth_lim (wth xs);generalize lim (wth xs)=a at *
 have h32:m%32<32:=yI _ (by omega);refine vf_rowS (nat_left a (m%32) (a.length+1) ha (by omega) h32) ?_;have e5:(((limN (a.length+1) (wth a*2^(m%32))).map limb).drop 0).take ((a.length+1)*1)=(limN (a.length+1) (wth a*2^(m%32))).map limb:=by
  rw[zQ,yD,xq (by rw[zZ,limN_length];omega)]
 rw[e5];have hr:=okL_limN (a.length+1) (wth a*2^(m%32));have hrl:=limN_length (a.length+1) (wth a*2^(m%32));have hrv:=wth_limN (a.length+1) (wth a*2^(m%32));generalize limN (a.length+1) (wth a*2^(m%32))=r at *
 repeat (first|simp only[go_sem,hrl]|simp (disch:=first|exact omg|fail) only[AX,hrl]|refine wki ?_|refine vpx [] ?_)
 have e6:List.take (m/32+a.length+1) (List.map limb (List.take (m/32) (List.replicate (m/32+a.length+1) 0))++List.map limb r++List.map limb (List.drop (m/32+(a.length+1)) (List.replicate (m/32+a.length+1) 0)))=(List.replicate (m/32) 0++r).map limb:=by
  rw[List.take_replicate,List.drop_replicate,show m/32+a.length+1-(m/32+(a.length+1))=0 by omega,yx (by omega),List.replicate_zero,List.map_nil,List.append_nil,<- List.map_append];exact xq (by rw[zZ,yG,yR];omega)
 rw[e6];refine vf_of (fn_natV (nat_trim (List.replicate (m/32) 0++r) (okL_append.2 ⟨okL_replicate _,hr⟩) (by rw[yG,yR];omega)) (by rw[yG,yR];omega)) ?_;repeat (first|simp only[go_sem]|simp (disch:=first|exact omg|fail) only[AX]|refine wki ?_|refine vpx [] ?_)
 have e7:wth (List.replicate (m/32) 0++r)=wth xs*2^m:=by
  rw[wth_append,wth_replicate,yV,yR,hrv,va,yB]
  ·have:(4294967296:Nat)^(m/32)*2^(m%32)=2^m:=by
    rw[show (4294967296:Nat)=2^32 by rfl,<- zF,<- xM,yl]
   rw[<- this,ym]
  ·have h1:=wth_lt ha;rw[va]at h1;have h2:(2:Nat)^(m%32)<=2^32:=xD (by omega) (by omega);rw[xU];exact xz (yq h1 (xK (by omega))) (xI _ h2)
 rw[e7]
end Go.Proofs.YtfknkoeagjonbaaGreat
namespace Go.Proofs.YtfknkoeagjonbaaGreat
open Go.Ev
theorem shift_down (xs:List Nat) (m:Nat) (hx:okL xs) (hl:xs.length<=137438953472) (s:Int) (hs:s = -(m:Int)) (hm:m<=4096) (hm0:0<m) :
  Go.Ev.Fn CX 88 [natV xs,.int .i64 s] (natV (lim (wth xs/2^m))):=by
 refine fni Tryz.f88 ?_;unfold Tryz.f88;have lx:=lim_length_le hx;have e1:(if (-4096:Int)>s then (-4096:Int) else s)=s:=if_neg (by omega);have e2:(if (4096:Int)<s then (4096:Int) else s)=s:=if_neg (by omega);have e3:IntKind.i64.wrap (0-s)=(m:Int):=by rw[wI64];omega
 have hs0:decide (s<0)=true:=by simp;omega
 repeat (first|simp only[go_sem,e1,e2,e3]|simp (disch:=first|exact omg|fail) only[AX,e1,e2,e3]|refine wki ?_|refine vpx [] ?_)
 have ha:=okL_lim (wth xs);refine vf_of (nat_trim xs hx) ?_;repeat (first|simp only[go_sem,e1,e2,e3,tdiv32,tmod32,hs0]|simp (disch:=first|exact omg|fail) only[AX,e1,e2,e3,tdiv32,tmod32,hs0]|refine wki ?_)
 have va:=wth_lim (wth xs);generalize lim (wth xs)=a at *
 have hk:m%32<32:=yI _ (by omega);have hpow:2^m=4294967296^(m/32)*2^(m%32):=by
  rw[show (4294967296:Nat)=2^32 by rfl,<- zF,<- xM,yl]
 have hdiv:wth xs/2^m=wth (a.drop (m/32))/2^(m%32):=by
  rw[<- va,hpow,<- zk];congr 1;conv=>lhs;rw[<- zu (m/32) a,wth_append]
  have h1:=wth_lt (okL_take ha (m/32));rw[yO]at h1 ⊢;rcases xi a.length (m/32) with h2|h2
  ·rw[zH (by omega)];simp only[wth,yX,yE];refine yn (xz h1 (xD (by omega) (Nat.min_le_left _ _)))
  ·rw[yx h2]at h1 ⊢;rw[wM,wa (xK (by omega)),yn h1,yE]
 rw[hdiv];by_cases hlen:a.length<=m/32
 ·rw[zH hlen];have e0:lim (wth []/2^(m%32))=[]:=by simp[wth,lim_zero]
  rw[e0];repeat (first|simp only[go_sem,e3,tdiv32,tmod32]|simp (disch:=first|exact omg|fail) only[AX,e3,tdiv32,tmod32]|refine wki ?_)
  rfl
 ·repeat (first|simp only[go_sem,e3,tdiv32,tmod32]|simp (disch:=first|exact omg|fail) only[AX,e3,tdiv32,tmod32]|refine wki ?_)
  have hbl:(a.drop (m/32)).length=a.length-m/32:=wU ..;have hb:=okL_drop ha (m/32);have hnl:a.length-m/32<=137438953472:=by omega
  generalize a.drop (m/32)=b at *
  generalize a.length-m/32=n at *
  subst hbl;have hDE:2^(m%32)*2^(32-m%32)=4294967296:=by rw[<- xM,show m%32+(32-m%32)=32 by omega]
  generalize m%32=k at *
  have hD0:0<2^k:=xK (by omega);have hE0:0<2^(32-k):=xK (by omega);refine vp_loop_inv (fun s'=>s'.tmp 6 = .sv (.int .u64 k)/\s'.tmp 7 = .ref 35 0 1 0 b.length/\s'.tmp 38 = .sv (natV b)/\s'.tmp 39 = .sv (.int .i64 b.length) /\
    ∃c:List Nat,∃i:Nat,s'.obj 35 0=some (c.map limb)/\s'.tmp 40 = .sv (.int .i64 i)/\c.length=b.length/\okL c/\i<=b.length/\(∀j,i<=j->c.getD j 0=0)/\(1<=i->c.getD (i-1) 0<2^(32-k)) /\
     ∃e,e<4294967296/\wth (b.take i)*2^(32-k)=4294967296*wth (c.take i)+e)
   (fun s=>match s.tmp 40 with | .sv (.int _ i)=>b.length-i.toNat|_=>0) ?_ ?_
  ·refine⟨rfl,rfl,rfl,rfl,List.replicate b.length 0,0,rfl,rfl,yR ..,okL_replicate _,by omega,fun j _ => ?_,fun h=>absurd h (by omega),0,by omega,by simp[wth]⟩;simp only[xW,List.getElem?_replicate];split<;>rfl
  clear e1 e2 e3 hs0 hpow hdiv va lx hx hl;rintro s' ⟨i6,i7,i38,i39,c,i,iO,i40,hc,hok,hi,hz,hlow,e,he,hv⟩
  by_cases hend:i=b.length
  ·subst hend;have e7:wth c=wth b/2^k:=by
    rw[xq (xQ _),xq (by omega)]at hv;rw[<- Nat.mul_div_mul_right _ _ hE0,hDE,hv,wa (by omega),yn he,yE]
   repeat (first|simp only[go_sem,i6,i7,i38,i39,iO,i40]|simp (disch:=first|exact omg|fail) only[AX,i6,i7,i38,i39,iO,i40]|refine wki ?_|refine vpx [] ?_)
   refine vf_of (fn_natV (nat_trim c hok) hc) ?_;repeat (first|simp only[go_sem,i6,i7,i38,i39,iO,i40]|simp (disch:=first|exact omg|fail) only[AX,i6,i7,i38,i39,iO,i40]|refine wki ?_|refine vpx [] ?_)
   rw[e7]
  ·have h1:=getD_lt hb i;have hz0:=hz i (xQ _);have ht:=wth_take_succ b i;generalize hvv:b.getD i 0=v at *
   have hw:v*4294967296/2^k=v*2^(32-k):=by
    rw[<- hDE,ym,Nat.mul_div_cancel_left _ hD0]
   have hmod:v*2^(32-k)%4294967296=2^(32-k)*(v%2^k):=by
    conv=>lhs;rw[<- hDE]
    rw[xV v,xV (2^k),Nat.mul_mod_mul_left]
   have hhi:v*2^(32-k)/4294967296<2^(32-k):=by
    rw[yC (by omega),xV (2^(32-k))];exact yq h1 hE0
   have hE1:2^(32-k)<=4294967296:=by
    have:=xD (n:=2) (by omega) (show 32-k<=32 by omega);omega
   have hor : ∀h,h<2^(32-k)->h |||v*2^(32-k)%4294967296=h+v*2^(32-k)%4294967296:=fun h hh=>by rw[hmod];exact or_low hh
   have hsum : ∀h,h<2^(32-k)->h+v*2^(32-k)%4294967296<4294967296:=fun h hh=>by
    rw[hmod];have e1:v%2^k+1<=2^k:=yI _ hD0;have e2:2^(32-k)*(v%2^k+1)<=2^(32-k)*2^k:=xI _ e1;rw[xV (2^(32-k)) (2^k),hDE,xY,yD]at e2;omega
   have hW1:v*2^(32-k)<18446744073709551616:=by
    have:v*2^(32-k)<=4294967295*4294967296:=xO (by omega) hE1;omega
   clear hmod;generalize hE:2^(32-k)=E at *
   generalize hWW:v*E=W at *
   have hsplit:=wE W 4294967296;have hlo:W%4294967296<4294967296:=yI _ (by omega);generalize hL:W%4294967296=lo at *
   generalize hH:W/4294967296=hh at *
   by_cases hi0:1<=i;rotate_left
   ·clear hor hsum;repeat (first|simp only[go_sem,i6,i7,i38,i39,iO,i40,hvv,hw,hL,hH,hz0,Nat.zero_or]|simp (disch:=first|exact omg|fail) only[AX,i6,i7,i38,i39,iO,i40,hvv,hw,hL,hH,hz0,Nat.zero_or]|refine wki ?_|refine vpx [] ?_)
    obtain rfl:i=0:=by omega
    refine⟨⟨c.set 0 hh,1,rfl,rfl,by rw[yN];exact hc,okL_set hok _ _,by omega,fun j hj=>(getD_set_ne).trans (hz j (by omega)),fun _ => ?_,lo,hlo,?_⟩,by omega⟩
    ·rw[getD_set_self];exact hhi
    ·have e1:=wth_set_take (xs:=c) (i:=0) (by omega) hh;rw[yV]at e1 ht;rw[ht,e1,List.take_zero,List.take_zero,yr,xe,xe];simp only[wth,yV];rw[hWW];omega
   ·have hlow':=hlow hi0;have hor':=hor _ hlow';have hsum':=hsum _ hlow';generalize hq:c.getD (i-1) 0=q at *
    generalize hqq:q+lo=qq at *
    clear hor hsum;have hset:(c.set i hh).getD (i-1) 0=q:=by rw[getD_set_ne,hq]
    repeat (first|simp only[go_sem,i6,i7,i38,i39,iO,i40,hvv,hw,hL,hH,hz0,Nat.zero_or,hset,hor']|simp (disch:=first|exact omg|fail) only[AX,i6,i7,i38,i39,iO,i40,hvv,hw,hL,hH,hz0,Nat.zero_or,hset,hor']|refine wki ?_|refine vpx [] ?_)
    have hpw:4294967296*4294967296^(i-1)=4294967296^i:=by
     rw[<- Nat.pow_succ',show (i-1).succ=i by omega]
    have hc1:wth (c.take i)=wth (c.take (i-1))+4294967296^(i-1)*q:=by
     have:=wth_take_succ c (i-1);rw[show i-1+1=i by omega,hq]at this;exact this
    have hc2:wth (((c.set i hh).set (i-1) qq).take (i+1))=wth (c.take (i-1))+4294967296^(i-1)*qq+4294967296^i*hh:=by
     have e2:=wth_set_take (xs:=c.set i hh) (i:=i-1) (by rw[yN];omega) qq;have e5:(c.set i hh).take (i-1)=c.take (i-1):=List.take_set_of_le (by omega);rw[show i-1+1=i by omega,e5]at e2;rw[wth_take_succ,e2,getD_set_ne,getD_set_self]
    refine⟨⟨(c.set i hh).set (i-1) qq,i+1,rfl,rfl,by rw[yN,yN];exact hc,okL_set (okL_set hok _ _) _ _,by omega,fun j hj => ?_,fun _ => ?_,e,he,?_⟩,by omega⟩
    ·rw[getD_set_ne,getD_set_ne];exact hz j (by omega)
    ·rw[wF,getD_set_ne,getD_set_self];exact hhi
    ·rw[ht,hc2,xZ,hv,hc1,<- hqq,xP,hWW,<- hsplit,xY (4294967296^i),xY (4294967296^(i-1))];have e3:4294967296*(4294967296^(i-1)*lo)=4294967296^i*lo:=by rw[<- xP,hpw]
     have e4:4294967296^i*(4294967296*hh)=4294967296*(4294967296^i*hh):=ym ..;generalize 4294967296^(i-1)*lo=x1 at *
     generalize 4294967296^(i-1)*q=x2 at *
     generalize 4294967296^i*lo=x3 at *
     omega
end Go.Proofs.YtfknkoeagjonbaaGreat
namespace Go.Proofs.YtfknkoeagjonbaaGreat
open Go.Ev
theorem wth_parts (c:List Nat) (j m:Nat) (h:j+m<=c.length:=by omega):wth c=wth (c.take j)+4294967296^j*(seg c j m+4294967296^m*wth (c.drop (j+m))):=by
 conv=>lhs;rw[<- zu j c,wth_append,<- zu m (c.drop j),wth_append]
 rw[yO,yO,wU,List.drop_drop,yx (by omega),yx (by omega)];rfl
theorem seg_top (c:List Nat) (j m:Nat):seg c j (m+2)=seg c j m+4294967296^m*(c.getD (j+m+1) 0*4294967296+c.getD (j+m) 0):=by
 rw[seg_succ,seg_succ,xU,xY,xV (c.getD (j+m+1) 0),<- xP,zR,wM (4294967296^m*c.getD (j+m) 0)];rfl
theorem seg_all (c:List Nat):seg c 0 c.length=wth c:=by
 unfold seg;rw[zQ,wV]
theorem drop_same {c e:List Nat} {m:Nat} (hl:c.length=e.length) (h : ∀j,m<=j->c.getD j 0=e.getD j 0):c.drop m=e.drop m:=by
 refine List.ext_getElem (by simp[hl]) fun n h1 h2 => ?_
 rw[wU]at h1 h2;have:=h (m+n) (by omega);rw[List.getElem_drop,List.getElem_drop];simpa[xW,xX (show m+n<c.length by omega),xX (show m+n<e.length by omega)]using this
theorem take_same {c e:List Nat} {m:Nat} (hl:c.length=e.length) (h : ∀j,j<m->c.getD j 0=e.getD j 0):c.take m=e.take m:=by
 refine List.ext_getElem (by simp[hl]) fun n h1 h2 => ?_
 rw[yO]at h1 h2;have:=h n (by omega);rw[List.getElem_take,List.getElem_take];simpa[xW,xX (show n<c.length by omega),xX (show n<e.length by omega)]using this
structure LongI (us d:List Nat) (j:Nat):Prop where
 ou:okL us
 od:okL d
 n2:2<=d.length
 hj:j+d.length+1<=us.length
 big:2147483648<=d.getD (d.length-1) 0
 lt:wth us<wth d*4294967296^(j+1)
theorem long_D {us d:List Nat} {j:Nat} (h:LongI us d j):wth d=seg d 0 (d.length-2)+4294967296^(d.length-2)*(d.getD (d.length-1) 0*4294967296+d.getD (d.length-2) 0):=by
 have:=seg_top d 0 (d.length-2);have h2:=h.n2;rw[show d.length-2+2=d.length by omega,seg_all,show 0+(d.length-2)+1=d.length-1 by omega,show 0+(d.length-2)=d.length-2 by omega]at this;exact this
theorem long_U {us d:List Nat} {j:Nat} (h:LongI us d j):seg us j (d.length+1)=seg us j (d.length-2)+4294967296^(d.length-2)*((us.getD (j+d.length) 0*4294967296+us.getD (j+d.length-1) 0)*4294967296+us.getD (j+d.length-2) 0):=by
 have h2:=h.n2;rw[show d.length+1=d.length-2+1+2 by omega,seg_top,seg_succ us j (d.length-2)];rw[show j+(d.length-2+1)+1=j+d.length by omega,show j+(d.length-2+1)=j+d.length-1 by omega,show j+(d.length-2)=j+d.length-2 by omega];rw[xU,xP,zR,<- xY];congr 2;omega
theorem long_row {us d:List Nat} {j:Nat} (h:LongI us d j):wth us=seg us j (d.length+1)*4294967296^j+wth (us.take j)/\wth (us.drop (j+(d.length+1)))=0/\seg us j (d.length+1)<wth d*4294967296:=by
 have hp:=wth_parts us j (d.length+1) (by have:=h.hj;omega);have hlt:=h.lt;have hD:=wth_lt h.od;have h1:wth d*4294967296^(j+1)<=4294967296^j*4294967296^(d.length+1):=by
  rw[xU,xU,xV (wth d),wl,<- xP];exact xC _ (xI _ (zf hD))
 have hz:wth (us.drop (j+(d.length+1)))=0:=by
  rcases xo (wth (us.drop (j+(d.length+1)))) with h0|h0
  ·exact h0
  ·have h2:4294967296^j*(4294967296^(d.length+1)*1)<=4294967296^j*(4294967296^(d.length+1)*wth (us.drop (j+(d.length+1)))):=xI _ (xI _ h0);rw[xY]at hp;rw[yD]at h2;omega
 rw[hz,yX,yE,xV,wM]at hp;refine⟨hp,hz,?_⟩;have h3:seg us j (d.length+1)*4294967296^j<wth d*4294967296*4294967296^j:=by
  rw[xP,<- Nat.pow_succ'];exact yM (by rw[hp];exact wI ..) hlt
 exact Nat.lt_of_mul_lt_mul_right h3
theorem long_high' {B P D U s0 s1 b1 b2 u1 u2 u3:Nat} (hD:D=s0+P*(b1*B+b2)) (hs:s0<P) (hb:b2<B) (hU:U=s1+P*((u1*B+u2)*B+u3)) (hlt:U<D*B):u1<=b1:=by
 rcases xi b1 u1 with hc|hc
 ·exfalso;have e0:b1*B+b2+1<=(b1+1)*B:=by rw[xZ,xe];omega
  have e1:(b1+1)*B<=u1*B:=xC _ hc;have e2:D<=P*(u1*B):=by
   have e3:P*(b1*B+b2+1)<=P*(u1*B):=xI _ (xH e0 e1);rw[xY P,yD]at e3;omega
  have e4:D*B<=P*(u1*B)*B:=xC _ e2;have e5:P*(u1*B)*B<=P*((u1*B+u2)*B+u3):=by
   rw[xP];refine xI _ (xH (xC _ (wI _ u2)) (wI _ _))
  omega
 ·exact hc
theorem long_high {us d:List Nat} {j:Nat} (h:LongI us d j):us.getD (j+d.length) 0<=d.getD (d.length-1) 0:=
 long_high' (long_D h) (seg_lt h.od 0 _) (getD_lt h.od _) (long_U h) (long_row h).2.2
theorem long_x' {B P D U s0 s1 b1 b2 u x:Nat} (hD:D=s0+P*(b1*B+b2)) (hs:s0<P) (hB:0<B) (hb1:1<=b1) (hU:U=s1+P*u) (hs1:s1<P) (hlt:U<D*B)
  (hx1:x<=B-1) (hx2:x<=u/(b1*B+b2)) (hx3 : ∀q,q<=B-1->q<=u/(b1*B+b2)->q<=x):U/D<=x/\x*D<=U+D:=by
 have e0:1*B<=b1*B:=xC _ hb1;rw[xe]at e0;refine long_guess (B:=B) (M:=P) (v:=b1*B+b2) (u:=u) ?_ ?_ ?_ ?_ ?_ hB hlt (by omega) hx1 hx2 hx3
 ·rw[xV];omega
 ·rw[xZ,xe,xV _ P];omega
 ·rw[xV];omega
 ·rw[xZ,xe,xV _ P];omega
 ·have:P*B<=P*(b1*B+b2):=xI _ (by omega);rw[xV];omega
theorem long_x {us d:List Nat} {j x:Nat} (h:LongI us d j) (hx:x=guessN ((us.getD (j+d.length) 0*4294967296+us.getD (j+d.length-1) 0)*4294967296+us.getD (j+d.length-2) 0) (d.getD (d.length-1) 0*4294967296+d.getD (d.length-2) 0)) :
  x<=4294967295/\seg us j (d.length+1)/wth d<=x/\x*wth d<=seg us j (d.length+1)+wth d:=by
 refine⟨hx▸guess_le _ _,?_⟩;exact long_x' (long_D h) (seg_lt h.od 0 _) (by decide) (by have:=h.big;omega) (long_U h) (seg_lt h.ou _ _) (long_row h).2.2 (hx▸guess_le _ _) (hx▸Nat.min_le_right _ _) (fun q hq1 hq2=>by rw[hx];exact Nat.le_min.2 ⟨hq1,hq2⟩)
theorem long_next {us us' d:List Nat} {j x A W:Nat} {b:Bool} (h:LongI us d j) (hx1:seg us j (d.length+1)/wth d<=x) (hx2:x*wth d<=seg us j (d.length+1)+wth d) (hT:Takes us d j x us' b)
  (hA:A=wth d*(4294967296^(j+1)*W)+wth us):(b=true->1<=x) /\
  A=wth d*(4294967296^j*((if b then x-1 else x)+4294967296*W))+wth us'/\wth us'<wth d*4294967296^j:=by
 obtain⟨hr1,hr2,hr3⟩:=long_row h;obtain⟨t1,t2,t3,t4,t5⟩:=hT;have hD0:0<wth d:=by
  have h4:=long_D h;have hb:=h.big;rw[h4];refine xz ?_ (Nat.le_add_left _ _);exact yu (xK (by omega)) (by omega)
 have hlow:wth (us.take j)<4294967296^j:=by
  refine xz (wth_lt (okL_take h.ou j)) (xD (by omega) ?_);rw[yO];exact Nat.min_le_left _ _
 have hr':wth us'=seg us' j (d.length+1)*4294967296^j+wth (us.take j):=by
  have hp:=wth_parts us' j (d.length+1) (by have:=h.hj;omega);rw[drop_same (m:=j+(d.length+1)) t1 (fun i hi=>t3 i (by omega)),hr2,take_same (m:=j) t1 (fun i hi=>t3 i (by omega)),yX,yE,xV,wM]at hp;exact hp
 generalize hU:seg us j (d.length+1)=U at *
 generalize seg us' j (d.length+1)=U' at *
 generalize wth d=D at *
 have hle : ∀q,q*D<=U->q<=U/D:=fun q hq=>(Nat.le_div_iff_mul_le hD0).2 hq
 have hge : ∀q,U<q*D->U/D<q:=fun q hq=>(yC hD0).2 hq
 have fin : ∀q,q=U/D->U'+q*D=U->A=D*(4294967296^j*(q+4294967296*W))+wth us'/\wth us'<D*4294967296^j:=by
  intro q hq hU';have e:U'=U-q*D:=by omega
  rw[hr',e];refine long_step (P:=4294967296^j) (B:=4294967296) (low:=wth (us.take j)) (us:=wth us) ?_ hr1 hlow hD0 hq;rw[hA,xU]
 rcases xi U (x*D) with hc|hc
 ·obtain⟨hbt,h6⟩:=t5 hc hx2;subst hbt;have hx0:1<=x:=by
   rcases xo x with rfl|h0
   ·rw[zY]at hc;omega
   ·exact h0
  have h7:x*D=(x-1)*D+D:=by
   conv=>lhs;rw[show x=x-1+1 by omega,xZ,xe]
  have h8:=hle (x-1) (by omega);have h9:=hge x hc;exact⟨fun _=>hx0,fin (x-1) (by omega) (by omega)⟩
 ·obtain⟨hbt,h6⟩:=t4 hc;subst hbt;have h8:=hle x hc;refine⟨fun h=>Bool.noConfusion h,fin x (by omega) h6⟩
theorem long_norm' {B H P E b blow top D dlow dtop:Nat} (hb:b=blow+P*top) (hbl:blow<P) (h1:(top+1)*E<=B) (h2:H<=top*E) (hD:D=b*E%(P*B)) (hd:D=dlow+P*dtop) (hdl:dlow<P) :
  D=b*E/\H<=dtop/\P*H<=D:=by
 have e1:b+1<=P*(top+1):=by rw[xY,yD];omega
 have e0:0<P:=by omega
 have e2:b*E<P*B\/E=0:=by
  rcases xo E with h|h
  ·exact .inr h
  ·left;have e3:(b+1)*E<=P*(top+1)*E:=xC _ e1;have e4:P*(top+1)*E<=P*B:=by rw[xP];exact xI _ h1
   rw[xZ,xe]at e3;omega
 have e5:D=b*E:=by
  rw[hD];rcases e2 with h|h
  ·exact yB h
  ·rw[h,yX,Nat.zero_mod]
 have e6:P*H<=D:=by
  rw[e5];have e7:P*H<=P*(top*E):=xI _ h2;have e8:P*(top*E)<=b*E:=by rw[<- xP];exact xC _ (by omega)
  omega
 refine⟨e5,?_,e6⟩;rcases xi dtop H with h|h
 ·exfalso;have:P*(dtop+1)<=P*H:=xI _ h;rw[xY,yD]at this;omega
 ·exact h
theorem blen_bounds {x:Nat} (hx:x≠0) (hx2:x<4294967296):32-blen x<=31/\(x+1)*2^(32-blen x)<=4294967296/\2147483648<=x*2^(32-blen x):=by
 have h1:x<2^(x.log2+1):=Nat.lt_log2_self;have h2:2^x.log2<=x:=Nat.log2_self_le hx;have h3:x.log2<32:=(Nat.log2_lt hx).2 hx2;unfold blen;rw[if_neg hx];refine⟨by omega,?_,?_⟩
 ·have e:(4294967296:Nat)=2^(x.log2+1)*2^(32-(x.log2+1)):=by rw[<- xM,show x.log2+1+(32-(x.log2+1))=32 by omega]
  rw[e];exact xC _ h1
 ·have e:(2147483648:Nat)=2^x.log2*2^(32-(x.log2+1)):=by rw[<- xM,show x.log2+(32-(x.log2+1))=31 by omega]
  rw[e];exact xC _ h2
theorem wth_top {b:List Nat} (h:1<=b.length:=by omega):wth b=wth (b.take (b.length-1))+4294967296^(b.length-1)*b.getD (b.length-1) 0:=by
 have:=wth_take_succ b (b.length-1);rw[show b.length-1+1=b.length by omega,wV]at this;exact this
theorem wth_low {b:List Nat} (hb:okL b) (n:Nat):wth (b.take n)<4294967296^n:=by
 refine xz (wth_lt (okL_take hb n)) (xD (by omega) ?_);rw[yO];exact Nat.min_le_left _ _
theorem long_start' {A E H P Q D:Nat} (ha:A<P*Q) (hE:E<=H) (hD:P*H<=D) (hE0:0<E):A*E<D*Q:=by
 have e1:A*E<P*Q*E:=yq ha hE0;have e2:P*Q*E<=P*Q*H:=xI _ hE;have e3:P*H*Q<=D*Q:=xC _ hD;rw[wl]at e3;omega
theorem long_setup {a b us d:List Nat} {k:Nat} (ha:okL a) (hb:okL b) (hb2:2<=b.length) (hab:b.length<=a.length) (htop:b.getD (b.length-1) 0≠0) (hk:32-blen (b.getD (b.length-1) 0)=k)
  (huv:wth us=wth a*2^k%4294967296^(a.length+1)) (hd:okL d) (hdl:d.length=b.length) (hdv:wth d=wth b*2^k%4294967296^b.length) :
  wth us=wth a*2^k/\wth d=wth b*2^k/\2147483648<=d.getD (b.length-1) 0/\wth us<wth d*4294967296^(a.length-b.length+1):=by
 obtain⟨h1,h2,h3⟩:=blen_bounds htop (getD_lt hb _);rw[hk]at h1 h2 h3;have h4:=wth_top (b:=d);rw[hdl]at h4;rw[show 4294967296^b.length=4294967296^(b.length-1)*4294967296 by rw[<- xU,show (b.length-1).succ=b.length by omega]]at hdv;obtain⟨g1,g2,g3⟩:=long_norm' (wth_top (b:=b)) (wth_low hb _) h2 h3 hdv h4 (wth_low hd _);have hE:2^k<=2147483648:=xD (n:=2) (by omega) h1;have hE0:0<2^k:=xK (by omega);have ha':=wth_lt ha;have hua:wth us=wth a*2^k:=by
  rw[huv];refine yB ?_;rw[xU];exact xz (yq ha' hE0) (xI _ (by omega))
 refine⟨hua,g1,g2,?_⟩;rw[hua];refine long_start' (H:=2147483648) (P:=4294967296^(b.length-1)) ?_ hE g3 hE0;rw[<- xM,show b.length-1+(a.length-b.length+1)=a.length by omega];exact ha'
theorem long_end {a b q r D E U:Nat} (hD:D=b*E) (hE:0<E) (hU:U=a*E) (h:U=D*q+r) (hr:r<D):a/b=q/\r/E=a%b:=by
 have hb:0<b:=by
  rcases xo b with h0|h0
  ·rw[h0,zY]at hD;omega
  ·exact h0
 have e1:a/b=q:=by
  have:U/D=q:=by rw[h,wa (by omega),yn hr,yE]
  rw[<- this,hU,hD,Nat.mul_div_mul_right _ _ hE]
 refine⟨e1,?_⟩;have e2:r=a%b*E:=by
  have e3:=yl a b;rw[e1]at e3;have e4:a*E=b*q*E+a%b*E:=by
   conv=>lhs;rw[<- e3]
   rw[xZ]
  rw[hU,hD,wl]at h;omega
 rw[e2,Nat.mul_div_cancel _ hE]
end Go.Proofs.YtfknkoeagjonbaaGreat
namespace Go.Proofs.YtfknkoeagjonbaaGreat
open Go.Ev
theorem zero_sub1:((0:Nat):Int)-1 = -1:=rfl
set_option maxHeartbeats 1000000 in
theorem nat_long (a b:List Nat) (ha:okL a) (hb:okL b) (hl:a.length<=68719476736) (hb2:2<=b.length) (hab:b.length<=a.length) (htop:b.getD (b.length-1) 0≠0) :
  Go.Ev.Fn CX 213 [natV a,natV b] (.tup [natV (lim (wth a/wth b)),natV (lim (wth a%wth b))]):=by
 refine fni Tryz.f213 ?_;unfold Tryz.f213;have ht:=getD_lt hb (b.length-1);have hk31:=(blen_bounds htop ht).1;have hbl:blen (b.getD (b.length-1) 0)<=32:=blen_le (k:=32) ht;have hbl1:1<=blen (b.getD (b.length-1) 0):=by unfold blen;rw[if_neg htop];omega
 repeat (first|simp only[go_sem]|simp (disch:=first|exact omg|fail) only[AX]|refine wki ?_)
 refine vf_of (bits_LeadingZeros32 (b.getD (b.length-1) 0) ht) ?_;repeat (first|simp only[go_sem]|simp (disch:=first|exact omg|fail) only[AX]|refine wki ?_)
 generalize hk:32-blen (b.getD (b.length-1) 0)=k at *
 have hk32:k<32:=by omega
 refine vf_row (nat_left a k (a.length+1) ha (by omega) hk32) ?_;repeat (first|simp only[go_sem]|simp (disch:=first|exact omg|fail) only[AX]|refine wki ?_)
 refine vf_row (nat_left b k b.length hb (by omega) hk32) ?_;repeat (first|simp only[go_sem]|simp (disch:=first|exact omg|fail) only[AX]|refine wki ?_)
 have hu:=okL_limN (a.length+1) (wth a*2^k);have hul:=limN_length (a.length+1) (wth a*2^k);have huv:=wth_limN (a.length+1) (wth a*2^k);have hd:=okL_limN b.length (wth b*2^k);have hdl:=limN_length b.length (wth b*2^k);have hdv:=wth_limN b.length (wth b*2^k);generalize limN (a.length+1) (wth a*2^k)=us0 at *
 generalize limN b.length (wth b*2^k)=d at *
 obtain⟨hU0,hD0,hbig,hlt0⟩:=long_setup ha hb hb2 hab htop hk huv hd hdl hdv;clear huv hdv;refine vp_loop_inv (fun s'=>s'.tmp 6 = .sv (.int .u64 k)/\s'.tmp 7 = .ref 25 0 1 0 (a.length+1)/\s'.tmp 8 = .ref 30 0 1 0 b.length/\s'.tmp 9 = .sv (.int .i64 b.length)/\s'.tmp 4 = .ref 38 0 1 0 (a.length-b.length+1)/\s'.obj 30 0=some (d.map limb) /\
   ∃us q:List Nat,∃i:Nat,s'.obj 25 0=some (us.map limb)/\s'.obj 38 0=some (q.map limb)/\s'.tmp 10 = .sv (.int .i64 ((i:Int)-1))/\us.length=a.length+1/\okL us/\q.length=a.length-b.length+1/\okL q/\i<=a.length-b.length+1 /\
    wth us0=wth d*(4294967296^i*wth (q.drop i))+wth us/\wth us<wth d*4294967296^i)
  (fun s=>match s.tmp 10 with | .sv (.int _ i)=>(i+1).toNat|_=>0) ?_ ?_
 ·refine⟨rfl,rfl,rfl,rfl,rfl,rfl,us0,List.replicate (a.length-b.length+1) 0,a.length-b.length+1,rfl,rfl,?_,hul,hu,yR ..,okL_replicate _,xQ _,?_,hlt0⟩
  ·exact congrArg (fun n=>TV.sv (.int .i64 n)) (show ((a.length-b.length+1-1:Nat):Int)=((a.length-b.length+1:Nat):Int)-1 by omega)
  ·rw[zH (Nat.le_of_eq (yR ..)),wth_nil,yX,yX,yV]
 rintro s' ⟨i6,i7,i8,i9,i4,iD,us,q,i,iU,iQ,i10,hus,hok,hql,hqk,hi,hA,hlt⟩
 rcases xo i with rfl|hi0
 ·repeat (first|simp only[go_sem,i6,i7,i8,i9,i4,iD,iU,iQ,i10]|simp (disch:=first|exact omg|fail) only[AX,i6,i7,i8,i9,i4,iD,iU,iQ,i10]|refine wki ?_)
  refine vpx [4,7] ?_;repeat (first|simp only[go_sem,i6,i7,i8,i9,i4,iD,iU,iQ,i10,N0,zero_sub1,decide_true,frzAll]|simp (disch:=first|exact omg|fail) only[AX,i6,i7,i8,i9,i4,iD,iU,iQ,i10,N0,zero_sub1,decide_true,frzAll]|refine wki ?_|refine vpx [] ?_)
  rw[yr,xe,zQ]at hA;rw[yr,yD]at hlt;obtain⟨e1,e2⟩:=long_end hD0 (xK (by omega)) hU0 hA hlt;have hut:(us.take b.length).length=b.length:=by rw[yO];omega
  have hwt:wth (us.take b.length)=wth us:=by
   have h1:=wth_parts us b.length (a.length+1-b.length);have h2:=wth_lt hd;rw[hdl]at h2;generalize seg us b.length (a.length+1-b.length)+4294967296^(a.length+1-b.length)*wth (us.drop (b.length+(a.length+1-b.length)))=z at h1;rcases xo z with rfl|hz
   ·rw[yX,yE]at h1;exact h1.symm
   ·have:4294967296^b.length*1<=4294967296^b.length*z:=xI _ hz;omega
  have hS:Go.Ev.Fn CX 88 [natV (us.take b.length),.int .i64 (0-(k:Int))] (natV (lim (wth a%wth b))):=by
   rw[<- e2,<- hwt];rcases xo k with h0|h0
   ·have h1:=shift_up (us.take b.length) 0 (okL_take hok _) (by omega) (0-(k:Int));rw[yr,yD]at h1;rw[show 2^k=1 by rw[h0,yr],zK];exact h1
   ·exact shift_down (us.take b.length) k (okL_take hok _) (by omega) (0-(k:Int)) (by omega) (by omega) h0
  rw[<- natV_eq hut]at hS;clear hA hlt hlt0 hU0 hbig hu ht hbl hbl1 htop hk hk31;refine vf_of (fn_natV (nat_trim q hqk) hql) ?_;repeat (first|simp only[go_sem,i6,i7,i8,i9,i4,iD,iU,iQ,i10,N0,zero_sub1,decide_true,frzAll]|simp (disch:=first|exact omg|fail) only[AX,i6,i7,i8,i9,i4,iD,iU,iQ,i10,N0,zero_sub1,decide_true,frzAll]|refine wki ?_|refine vpx [] ?_)
  refine vfa ?_;repeat (first|simp only[go_sem,i6,i7,i8,i9,i4,iD,iU,iQ,i10,N0,zero_sub1,decide_true,frzAll]|simp (disch:=first|exact omg|fail) only[AX,i6,i7,i8,i9,i4,iD,iU,iQ,i10,N0,zero_sub1,decide_true,frzAll]|refine wki ?_|refine vpx [] ?_)
  rw[e1]
 ·obtain⟨j,rfl⟩ : ∃j,i=j+1:=⟨i-1,by omega⟩
  have h5:((j+1:Nat):Int)-1=(j:Int):=by omega
  have h6:((j+b.length:Nat):Int)-2=((j+b.length-2:Nat):Int):=by omega
  have h7:(b.length:Int)-2=((b.length-2:Nat):Int):=by omega
  have h8:j+b.length+1-j=b.length+1:=by omega
  rw[h5]at i10;have hI:LongI us d j:=⟨hok,hd,by omega,by omega,by rw[hdl];exact hbig,hlt⟩
  have hh:=long_high hI;have hbig':=hI.big;have hx:=long_x hI rfl;have hT:=fun us' b x=>long_next (us':=us') (x:=x) (b:=b) (A:=wth us0) (W:=wth (q.drop (j+1))) hI
  rw[hdl]at hh hx hbig';obtain⟨x,hxx⟩ : ∃x,guessN ((us.getD (j+b.length) 0*4294967296+us.getD (j+b.length-1) 0)*4294967296+us.getD (j+b.length-2) 0) (d.getD (b.length-1) 0*4294967296+d.getD (b.length-2) 0)=x:=⟨_,rfl⟩
  rw[hxx]at hx;repeat (first|simp only[go_sem,i6,i7,i8,i9,i4,iD,iU,iQ,i10,h5,h6,h7]|simp (disch:=first|exact omg|fail) only[AX,i6,i7,i8,i9,i4,iD,iU,iQ,i10,h5,h6,h7]|refine wki ?_|refine vpx [] ?_)
  refine vf_of (guess_fn _ _ _ _ _ hh (getD_lt hd _) hbig' (getD_lt hok _) (getD_lt hok _) (getD_lt hd _)) ?_;repeat (first|simp only[go_sem,i6,i7,i8,i9,i4,iD,iU,iQ,i10,h5,h6,h7,h8,hxx]|simp (disch:=first|exact omg|fail) only[AX,i6,i7,i8,i9,i4,iD,iU,iQ,i10,h5,h6,h7,h8,hxx]|refine wki ?_|refine vpx [] ?_)
  obtain⟨r,exps,⟨us',bb,hTk,rfl,rfl⟩,hf⟩:=takes_fn us d j x hok hd (by omega) (by omega) hx.1;rw[<- hdl]at hx;obtain⟨hn1,hn2,hn3⟩:=hT us' bb x hx.2.1 hx.2.2 hTk hA;obtain⟨t1,t2,-⟩:=hTk;rw[hdl]at hf;refine vi_of hf rfl ?_;have hx1:=hx.1;clear hx hT hxx hh hbig' hI hlt hA hf hlt0 hU0 hD0 hbig hu ht hbl hbl1 htop hk;cases bb
  ·repeat (first|simp only[go_sem,i6,i7,i8,i9,i4,iD,iU,iQ,i10,h5,h6,h7,h8]|simp (disch:=first|exact omg|fail) only[AX,i6,i7,i8,i9,i4,iD,iU,iQ,i10,h5,h6,h7,h8]|refine wki ?_|refine vpx [] ?_)
   refine⟨⟨us',q.set j x,j,rfl,rfl,rfl,t1.trans hus,t2,by rw[yN];exact hql,okL_set hqk _ _,by omega,?_,hn3⟩,by omega⟩;rw[wth_set_drop (by omega)];exact hn2
  ·have hx2:=hn1 rfl;have hx3:x-1<4294967296:=by omega
   repeat (first|simp only[go_sem,i6,i7,i8,i9,i4,iD,iU,iQ,i10,h5,h6,h7,h8]|simp (disch:=first|exact omg|fail) only[AX,i6,i7,i8,i9,i4,iD,iU,iQ,i10,h5,h6,h7,h8]|refine wki ?_|refine vpx [] ?_)
   refine⟨⟨us',q.set j (x-1),j,rfl,rfl,rfl,t1.trans hus,t2,by rw[yN];exact hql,okL_set hqk _ _ hx3,by omega,?_,hn3⟩,by omega⟩;rw[wth_set_drop (by omega)];exact hn2
end Go.Proofs.YtfknkoeagjonbaaGreat
namespace Go.Proofs.YtfknkoeagjonbaaGreat
open Go.Ev
def remN (x y:Nat):Nat:=if y=0 then 0 else x%y
theorem cmpN_lt {a b:Nat} (h:a<b:=by omega):cmpN a b = -1:=if_pos h
theorem cmpN_ge {a b:Nat} (h:b<=a):decide (cmpN a b<0)=false:=by
 unfold cmpN;rw[if_neg (by omega)];split<;>rfl
theorem trimL_getD {xs:List Nat} (h:trimL xs) (h0:1<=xs.length):xs.getD (xs.length-1) 0≠0:=by
 have:=isT_iff.2 h;unfold isT at this;rw[Bool.or_eq_true]at this;rcases this with h1|h1
 ·have:xs.length=0:=by simpa using h1
  omega
 ·simpa using h1
theorem nat_DivMod (xs ys:List Nat) (hx:okL xs) (hy:okL ys) (hl:xs.length<=68719476736) (hm:ys.length<=68719476736) :
  Go.Ev.Fn CX 140 [natV xs,natV ys] (.tup [natV (lim (wth xs/wth ys)),natV (lim (remN (wth xs) (wth ys))),.bool (decide (wth ys≠0))]):=by
 refine fni Tryz.f140 ?_;unfold Tryz.f140;have lx:=lim_length_le hx;have ly:=lim_length_le hy;repeat (first|simp only[go_sem]|simp (disch:=first|exact omg|fail) only[AX]|refine wki ?_|refine vpx [] ?_)
 refine vf_of (nat_trim xs hx) ?_;repeat (first|simp only[go_sem]|simp (disch:=first|exact omg|fail) only[AX]|refine wki ?_|refine vpx [] ?_)
 refine vf_of (nat_trim ys hy) ?_;repeat (first|simp only[go_sem]|simp (disch:=first|exact omg|fail) only[AX]|refine wki ?_|refine vpx [] ?_)
 have ha:=okL_lim (wth xs);have hb:=okL_lim (wth ys);have va:=wth_lim (wth xs);have vb:=wth_lim (wth ys);have ta:=trimL_lim (wth xs);have tb:=trimL_lim (wth ys);generalize lim (wth xs)=a at *
 generalize lim (wth ys)=b at *
 rw[<- va,<- vb];clear va vb hx hy;rcases xo b.length with h0|h0
 ·obtain rfl:b=[]:=wR h0;rw[wth_nil,Nat.div_zero,lim_zero,show remN (wth a) 0=0 by rfl,lim_zero];repeat (first|simp only[go_sem]|simp (disch:=first|exact omg|fail) only[AX]|refine wki ?_|refine vpx [] ?_)
  rfl
 have hb0:0<wth b:=by
  have h1:=trimL_getD tb h0;rw[wth_top h0];refine xz ?_ (Nat.le_add_left _ _);exact yu (xK (by omega)) (by omega)
 have e0:remN (wth a) (wth b)=wth a%wth b:=if_neg (by omega);have e1:decide (wth b≠0)=true:=decide_eq_true (by omega);rw[e0,e1];have hc:=nat_Cmp a b ha hb;by_cases hlt:wth a<wth b
 ·rw[cmpN_lt hlt]at hc;rw[yn hlt,yB hlt,lim_zero];repeat (first|simp only[go_sem]|simp (disch:=first|exact omg|fail) only[AX]|refine wki ?_|refine vpx [] ?_|refine vfa ?_)
  refine vf_of (nat_Trim a ha) ?_;repeat (first|simp only[go_sem]|simp (disch:=first|exact omg|fail) only[AX]|refine wki ?_|refine vpx [] ?_)
  rfl
 ·have h2:=cmpN_ge (by omega:wth b<=wth a);repeat (first|simp only[go_sem,h2]|simp (disch:=first|exact omg|fail) only[AX,h2]|refine wki ?_|refine vpx [] ?_|refine vfa ?_)
  by_cases h1:b.length=1
  ·obtain⟨v,rfl⟩:=List.length_eq_one_iff.1 h1;have hv:v<4294967296:=(okL_cons.1 hb).1;have ev:wth [v]=v:=by rw[wth_cons,wth_nil,yX,yE]
   rw[ev]at hb0 hlt e0 e1 h2 hc ⊢;have hm:wth a%v<4294967296:=Nat.lt_trans (yI _ hb0) hv;generalize hM:wth a%v=M at *
   repeat (first|simp only[go_sem,h2,List.head?_cons]|simp (disch:=first|exact omg|fail) only[AX,h2,List.head?_cons]|refine wki ?_|refine vpx [] ?_)
   refine vf_of (nat_small a v ha (by omega) hb0 hv) ?_;repeat (first|simp only[go_sem,h2,hM]|simp (disch:=first|exact omg|fail) only[AX,h2,hM]|refine wki ?_|refine vpx [] ?_)
   refine vf_of (nat_Of M) ?_;repeat (first|simp only[go_sem]|simp (disch:=first|exact omg|fail) only[AX]|refine wki ?_|refine vpx [] ?_)
  ·have hla:=trimL_length hb ha tb;repeat (first|simp only[go_sem]|simp (disch:=first|exact omg|fail) only[AX]|refine wki ?_|refine vpx [] ?_)
   refine vf_of (nat_long a b ha hb (by omega) (by omega) hla (trimL_getD tb h0)) ?_;repeat (first|simp only[go_sem]|simp (disch:=first|exact omg|fail) only[AX]|refine wki ?_|refine vpx [] ?_)
theorem nat_Gcd (xs ys:List Nat) (hx:okL xs) (hy:okL ys) (hl:xs.length<=68719476736) (hm:ys.length<=68719476736) :
  Go.Ev.Fn CX 139 [natV xs,natV ys] (natV (lim (Nat.gcd (wth xs) (wth ys)))):=by
 refine fni Tryz.f139 ?_;unfold Tryz.f139;have lx:=lim_length_le hx;have ly:=lim_length_le hy;repeat (first|simp only[go_sem]|simp (disch:=first|exact omg|fail) only[AX]|refine wki ?_|refine vpx [] ?_)
 refine vf_of (nat_Trim xs hx) ?_;repeat (first|simp only[go_sem]|simp (disch:=first|exact omg|fail) only[AX]|refine wki ?_|refine vpx [] ?_)
 refine vf_of (nat_Trim ys hy) ?_;repeat (first|simp only[go_sem]|simp (disch:=first|exact omg|fail) only[AX]|refine wki ?_|refine vpx [] ?_)
 refine vp_loop_inv (fun s => ∃a b:Nat,s.tmp 0 = .sv (natV (lim a))/\s.tmp 1 = .sv (natV (lim b))/\(lim a).length<=68719476736/\(lim b).length<=68719476736/\Nat.gcd a b=Nat.gcd (wth xs) (wth ys))
  (fun s=>match s.tmp 1 with | .sv (.sl _ cs)=>(match decL cs with|some l=>wth l|none=>0)|_=>0) ⟨_,_,rfl,rfl,by omega,by omega,rfl⟩ ?_
 rintro s ⟨a,b,i0,i1,la,lb,hg⟩
 by_cases hb:b=0
 ·subst hb;rw[lim_zero]at i1;rw[<- hg,Nat.gcd_zero_right];repeat (first|simp only[go_sem,i0,i1]|simp (disch:=first|exact omg|fail) only[AX,i0,i1]|refine wki ?_|refine vpx [] ?_)
 ·have h1:0<(lim b).length:=wg.2 (fun h=>hb (lim_eq_nil.1 h));repeat (first|simp only[go_sem,i0,i1]|simp (disch:=first|exact omg|fail) only[AX,i0,i1]|refine wki ?_|refine vpx [] ?_)
  refine vf_of (nat_DivMod (lim a) (lim b) (okL_lim a) (okL_lim b) la lb) ?_;repeat (first|simp only[go_sem,i0,i1]|simp (disch:=first|exact omg|fail) only[AX,i0,i1]|refine wki ?_|refine vpx [] ?_)
  have e1:remN (wth (lim a)) (wth (lim b))=a%b:=by rw[wth_lim,wth_lim];exact if_neg hb
  rw[e1,decL_map (okL_lim _),decL_map (okL_lim _)];dsimp only;rw[wth_lim,wth_lim];have h2:a%b<b:=yI _ (by omega);have h3:=trimL_length (okL_lim (a%b)) (okL_lim b) (trimL_lim _) (by rw[wth_lim,wth_lim];omega);refine⟨⟨b,a%b,rfl,rfl,lb,by omega,?_⟩,h2⟩;rw[<- hg,Nat.gcd_comm b,<- Nat.gcd_rec,Nat.gcd_comm]
end Go.Proofs.YtfknkoeagjonbaaGreat
namespace Go.Proofs.YtfknkoeagjonbaaGreat
open Go.Ev
theorem ref1_Trim (xs:List Nat) (hx:okL xs) (hl:xs.length<=274877906944:=by omega):Go.Ev.Fn CX 129 [natV xs] (natV (lim (wth xs))):=by
 refine fni Tryz.f129 ?_;unfold Tryz.f129;repeat (first|simp only[go_sem]|simp (disch:=first|exact omg|fail) only[AX]|refine wki ?_|refine vpx [] ?_)
 refine vp_loop_inv (fun s=>s.tmp 0 = .sv (natV xs)/\s.gen 18=0 /\ ∃n:Nat,s.tmp 3 = .sv (.int .i64 n)/\n<=xs.length/\lim (wth (xs.take n))=lim (wth xs)) (fun s=>match s.tmp 3 with | .sv (.int _ i)=>i.toNat|_=>0) ?_ ?_
 ·exact⟨rfl,rfl,xs.length,rfl,xQ _,by rw[wV]⟩
 rintro s ⟨i0,ig,n,i3,hn,he⟩
 rcases xo n with rfl|h0
 ·have e:xs.take 0=[]:=List.take_zero;rw[e]at he;rw[<- he,wth_nil,lim_zero];repeat (first|simp only[go_sem,i0,i3,ig]|simp (disch:=first|exact omg|fail) only[AX,i0,i3,ig]|refine wki ?_|refine vpx [] ?_)
  exact ro_ref (cs:=[]) (by decide) (by simp[St.put,St.new,ig]) rfl
 ·by_cases hz:xs.getD (n-1) 0=0
  ·repeat (first|simp only[go_sem,i0,i3,ig,hz]|simp (disch:=first|exact omg|fail) only[AX,i0,i3,ig,hz]|refine wki ?_|refine vpx [] ?_)
   have e1:xs.take n=xs.take (n-1)++[0]:=by
    have h1:=List.take_add_one (l:=xs) (i:=n-1);rw[show n-1+1=n by omega]at h1;rw[h1,<- hz,xW,xX (by omega)];rfl
   rw[e1,lim_snoc0]at he;exact⟨⟨n-1,rfl,by omega,he⟩,by omega⟩
  ·repeat (first|simp only[go_sem,i0,i3,ig,N0]|simp (disch:=first|exact omg|fail) only[AX,i0,i3,ig,N0]|refine wki ?_|refine vpx [] ?_)
   have e1:(xs.take n).length=n:=by rw[yO];omega
   have e2:trimL (xs.take n):=by
    refine isT_iff.1 ?_;have e3:(xs.take n).getD (n-1) 0=xs.getD (n-1) 0:=by
     simp only[xW];rw[yk (by omega)]
    unfold isT;rw[e1,e3];rw[bne_iff_ne.2 hz,Bool.or_true]
   rw[<- he,<- lim_unique (okL_take hx n) e2];refine ro_ref (cs:=(xs.take n).map limb) (by decide) (by simp[St.put,St.grow]) ?_;rw[zQ,yD,xq (by rw[zZ];omega),natV_eq e1]
theorem ref1_at (xs:List Nat) (i:Nat) (hx:okL xs) (hl:xs.length<=1099511627776:=by omega) (hi:i<=1099511627776:=by omega):Go.Ev.Fn CX 130 [natV xs,.int .i64 i] (.int .u64 (xs.getD i 0:Nat)):=by
 refine fni Tryz.f130 ?_;unfold Tryz.f130;have h:=getD_lt hx i;by_cases h1:i<xs.length
 ·repeat (first|simp only[go_sem]|simp (disch:=first|exact omg|fail) only[AX]|refine wki ?_|refine vpx [] ?_)
 ·rw[xW,xl (by omega)];repeat (first|simp only[go_sem]|simp (disch:=first|exact omg|fail) only[AX]|refine wki ?_|refine vpx [] ?_)
  rfl
theorem ref1_Cmp (xs ys:List Nat) (hx:okL xs) (hy:okL ys) (hl:xs.length<=274877906944:=by omega) (hm:ys.length<=274877906944:=by omega):Go.Ev.Fn CX 66 [natV xs,natV ys] (.int .i64 (cmpN (wth xs) (wth ys))):=by
 refine fni Tryz.f66 ?_;unfold Tryz.f66;have lx:=lim_length_le hx;have ly:=lim_length_le hy;repeat (first|simp only[go_sem]|simp (disch:=first|exact omg|fail) only[AX]|refine wki ?_|refine vpx [] ?_)
 refine vf_of (ref1_Trim xs hx) ?_;repeat (first|simp only[go_sem]|simp (disch:=first|exact omg|fail) only[AX]|refine wki ?_|refine vpx [] ?_)
 refine vf_of (ref1_Trim ys hy) ?_;repeat (first|simp only[go_sem]|simp (disch:=first|exact omg|fail) only[AX]|refine wki ?_|refine vpx [] ?_)
 by_cases h1:(lim (wth xs)).length=(lim (wth ys)).length
 ·repeat (first|simp only[go_sem]|simp (disch:=first|exact omg|fail) only[AX]|refine wki ?_)
  refine vp_loop_inv (fun s=>s.tmp 5 = .sv (natV (lim (wth xs)))/\s.tmp 6 = .sv (natV (lim (wth ys))) /\ ∃i:Nat,s.tmp 7 = .sv (.int .i64 ((i:Int)-1))/\i<=(lim (wth xs)).length/\(lim (wth xs)).drop i=(lim (wth ys)).drop i)
   (fun s=>match s.tmp 7 with | .sv (.int _ i)=>(i+1).toNat|_=>0) ⟨rfl,rfl,(lim (wth xs)).length,rfl,xQ _,?_⟩ ?_
  ·rw[List.drop_length,h1,List.drop_length]
  rintro s ⟨g0,g1,i,g5,hi,hd⟩
  rcases xo i with rfl|hi0
  ·have e:cmpN (wth xs) (wth ys)=0:=by
    have:=congrArg wth hd;rw[zQ,zQ,wth_lim,wth_lim]at this;rw[this];simp[cmpN]
   rw[e];repeat (first|simp only[go_sem,g0,g1,g5]|simp (disch:=first|exact omg|fail) only[AX,g0,g1,g5]|refine wki ?_|refine vpx [] ?_)
  ·repeat (first|simp only[go_sem,g0,g1,g5]|simp (disch:=first|exact omg|fail) only[AX,g0,g1,g5]|refine wki ?_|refine vpx [] ?_)
   have hdr : ∀zs:List Nat,i<=zs.length->zs.drop (i-1)=zs.getD (i-1) 0::zs.drop i:=by
    intro zs hz;rw[wn (show i-1<zs.length by omega),xW,xX (show i-1<zs.length by omega),show i-1+1=i by omega];rfl
   rcases Nat.lt_trichotomy ((lim (wth xs)).getD (i-1) 0) ((lim (wth ys)).getD (i-1) 0) with hc|hc|hc
   ·have:=wth_lt_of (okL_lim _) (okL_lim _) h1 (i:=i-1) (by omega) (by rw[show i-1+1=i by omega];exact hd) hc;rw[wth_lim,wth_lim]at this;have e:cmpN (wth xs) (wth ys) = -1:=by simp[cmpN,this]
    rw[e];repeat (first|simp only[go_sem,g0,g1,g5]|simp (disch:=first|exact omg|fail) only[AX,g0,g1,g5]|refine wki ?_|refine vpx [] ?_)
   ·repeat (first|simp only[go_sem,g0,g1,g5]|simp (disch:=first|exact omg|fail) only[AX,g0,g1,g5]|refine wki ?_|refine vpx [] ?_)
    refine⟨⟨i-1,?_,by omega,?_⟩,by omega⟩
    ·simp only[Int.natCast_sub hi0]
    ·rw[hdr _ hi,hdr _ (by omega),hc,hd]
   ·have:=wth_lt_of (okL_lim _) (okL_lim _) h1.symm (i:=i-1) (by omega) (by rw[show i-1+1=i by omega];exact hd.symm) hc;rw[wth_lim,wth_lim]at this;have e:cmpN (wth xs) (wth ys)=1:=by unfold cmpN;rw[if_neg (by omega),if_neg (by omega)]
    rw[e];repeat (first|simp only[go_sem,g0,g1,g5]|simp (disch:=first|exact omg|fail) only[AX,g0,g1,g5]|refine wki ?_|refine vpx [] ?_)
 ·by_cases h2:(lim (wth xs)).length<(lim (wth ys)).length
  ·have:=lim_length_lt h2;have e:cmpN (wth xs) (wth ys) = -1:=by simp[cmpN,this]
   rw[e];repeat (first|simp only[go_sem]|simp (disch:=first|exact omg|fail) only[AX]|refine wki ?_|refine vpx [] ?_)
  ·have:=lim_length_lt (a:=wth ys) (b:=wth xs);have e:cmpN (wth xs) (wth ys)=1:=by unfold cmpN;rw[if_neg (by omega),if_neg (by omega)]
   rw[e];repeat (first|simp only[go_sem]|simp (disch:=first|exact omg|fail) only[AX]|refine wki ?_|refine vpx [] ?_)
theorem ref1_Of (n:Nat) (hn:n<18446744073709551616:=by omega):Go.Ev.Fn CX 72 [.int .u64 n] (natV (lim n)):=by
 refine fni Tryz.f72 ?_;unfold Tryz.f72;repeat (first|simp only[go_sem]|simp (disch:=first|exact omg|fail) only[AX]|refine wki ?_|refine vpx [] ?_)
 have e:wth [n%4294967296,n/4294967296]=n:=by simp only[wth];omega
 refine vf_of (ref1_Trim [n%4294967296,n/4294967296] (by simp[okL];omega) (by simp)) ?_;repeat (first|simp only[go_sem]|simp (disch:=first|exact omg|fail) only[AX]|refine wki ?_|refine vpx [] ?_)
 rw[e]
theorem ref1_small (xs:List Nat) (b:Nat) (hx:okL xs) (hl:xs.length<=1073741824) (hb0:0<b) (hb:b<4294967296) :
  Go.Ev.Fn CX 203 [natV xs,.int .u64 b] (.tup [natV (lim (wth xs/b)),.int .u64 (wth xs%b:Nat)]):=by
 refine fni Tryz.f203 ?_;unfold Tryz.f203;repeat (first|simp only[go_sem]|simp (disch:=first|exact omg|fail) only[AX]|refine wki ?_)
 refine vp_loop_inv (fun s'=>s'.tmp 0 = .sv (natV xs)/\s'.tmp 1 = .sv (.int .u64 b)/\s'.tmp 6 = .ref 11 0 1 0 xs.length /\
   ∃q:List Nat,∃i rest:Nat,s'.obj 11 0=some (q.map limb)/\s'.tmp 8 = .sv (.int .i64 ((i:Int)-1))/\s'.tmp 7 = .sv (.int .u64 rest)/\q.length=xs.length/\okL q/\i<=xs.length/\rest<b /\
    wth (xs.drop i)=b*wth (q.drop i)+rest)
  (fun s=>match s.tmp 8 with | .sv (.int _ i)=>(i+1).toNat|_=>0) ?_ ?_
 ·refine⟨rfl,rfl,rfl,List.replicate xs.length 0,xs.length,0,rfl,rfl,rfl,yR ..,okL_replicate _,by omega,hb0,?_⟩;rw[List.drop_length,zH (by simp)];simp[wth]
 rintro s' ⟨i0,i1,i6,q,i,rest,iO,i8,i7,hq,hok,hi,hrest,hv⟩
 rcases xo i with rfl|hi0
 ·repeat (first|simp only[go_sem,i0,i1,i6,iO,i8,i7]|simp (disch:=first|exact omg|fail) only[AX,i0,i1,i6,iO,i8,i7]|refine wki ?_|refine vpx [] ?_)
  rw[zQ,zQ]at hv;have e1:wth xs/b=wth q:=by
   rw[hv,wa hb0,yn hrest,yE]
  have e2:wth xs%b=rest:=by
   rw[hv,Nat.mul_add_mod,yB hrest]
  refine vf_of (fn_natV (ref1_Trim q hok) hq) ?_;repeat (first|simp only[go_sem,i0,i1,i6,iO,i8,i7]|simp (disch:=first|exact omg|fail) only[AX,i0,i1,i6,iO,i8,i7]|refine wki ?_|refine vpx [] ?_)
  rw[e1,e2];exact⟨rfl,rfl⟩
 ·have h1:=getD_lt hx (i-1);have h5:(((i-1:Nat):Int))=(i:Int)-1:=by omega
  have hq0:(rest*4294967296+xs.getD (i-1) 0)/b<4294967296:=by
   rw[yC hb0];have:(rest+1)*4294967296<=b*4294967296:=xC _ hrest;omega
  have hr0:=yI (rest*4294967296+xs.getD (i-1) 0) hb0;have hdr:=wth_drop (xs:=xs) (i:=i-1);have e1:=yl (rest*4294967296+xs.getD (i-1) 0) b;obtain⟨X,hX⟩ : ∃X,rest*4294967296+xs.getD (i-1) 0=X:=⟨_,rfl⟩
  have hX64:X<18446744073709551616:=by omega
  have hj:bitsSV .or .u64 ((rest*4294967296:Nat):Int) ((xs.getD (i-1) 0:Nat):Int)=some (.int .u64 (X:Int)):=by
   rw[b_join (by omega) h1,hX]
  rw[hX]at hq0 hr0 e1;rw[show i-1+1=i by omega,hv]at hdr;have e3:X/b%18446744073709551616%4294967296=X/b:=by rw[yB (Nat.lt_trans hq0 (by decide)),yB hq0]
  repeat (first|simp only[go_sem,i0,i1,i6,iO,i8,i7,hj,e3]|simp (disch:=first|exact omg|fail) only[AX,i0,i1,i6,iO,i8,i7,hj,e3]|refine wki ?_|refine vpx [] ?_)
  refine⟨⟨q.set (i-1) (X/b),i-1,X%b,rfl,rfl,rfl,by rw[yN];exact hq,okL_set hok _ _ hq0,by omega,hr0,?_⟩,by omega⟩;rw[wth_set_drop (by omega),hdr,show i-1+1=i by omega];generalize X/b=Q at *
  generalize X%b=R at *
  rw[xY b,<- xP b,xV b 4294967296,xP];omega
theorem lim_two {v:Nat}:(lim v).length<=2↔v<18446744073709551616:=by
 constructor
 ·intro h;have h1:=wth_lt (okL_lim v);rw[wth_lim]at h1;exact xz h1 (xD (n:=4294967296) (by omega) h)
 ·intro h;have h1:=trimL_length (xs:=lim v) (ys:=[v%4294967296,v/4294967296]) (okL_lim v) (by simp[okL];omega) (trimL_lim v) (by rw[wth_lim];simp only[wth];omega);exact h1
theorem wth_drop_lt {xs:List Nat} {i:Nat} (hx:okL xs) (hl:xs.length<=2) (hi:1<=i):wth (xs.drop i)<4294967296:=by
 have h1:=wth_lt (okL_drop hx i);rw[wU]at h1;exact xz h1 (show 4294967296^(xs.length-i)<=4294967296^1 from xD (by omega) (by omega))
theorem ref1_To (xs:List Nat) (hx:okL xs) (hl:xs.length<=274877906944:=by omega) :
  Go.Ev.Fn CX 147 [natV xs] (.tup [.int .u64 ((if wth xs<18446744073709551616 then wth xs else 0:Nat):Int),.bool (decide (wth xs<18446744073709551616))]):=by
 refine fni Tryz.f147 ?_;unfold Tryz.f147;have lx:=lim_length_le hx;have h2:=lim_two (v:=wth xs);repeat (first|simp only[go_sem]|simp (disch:=first|exact omg|fail) only[AX]|refine wki ?_|refine vpx [] ?_)
 refine vf_of (ref1_Trim xs hx) ?_;repeat (first|simp only[go_sem]|simp (disch:=first|exact omg|fail) only[AX]|refine wki ?_|refine vpx [] ?_)
 have ha:=okL_lim (wth xs);have va:=wth_lim (wth xs);generalize lim (wth xs)=a at *
 rw[<- va]at h2 ⊢;clear va;by_cases h:a.length<=2
 ·rw[if_pos (h2.1 h),decide_eq_true (h2.1 h)];clear h2;repeat (first|simp only[go_sem]|simp (disch:=first|exact omg|fail) only[AX]|refine wki ?_|refine vpx [] ?_)
  refine vp_loop_inv (fun s=>s.tmp 4 = .sv (natV a) /\ ∃i:Nat,s.tmp 6 = .sv (.int .i64 ((i:Int)-1))/\i<=a.length/\s.tmp 5 = .sv (.int .u64 (wth (a.drop i))))
   (fun s=>match s.tmp 6 with | .sv (.int _ i)=>(i+1).toNat|_=>0) ?_ ?_
  ·refine⟨rfl,a.length,rfl,xQ _,?_⟩;rw[List.drop_length];rfl
  rintro s ⟨i4,i,i6,hi,i5⟩
  rcases xo i with rfl|hi0
  ·rw[zQ]at i5;repeat (first|simp only[go_sem,i4,i6,i5]|simp (disch:=first|exact omg|fail) only[AX,i4,i6,i5]|refine wki ?_|refine vpx [] ?_)
  ·have h1:=getD_lt ha (i-1);have h3:=wth_drop_lt ha h hi0;have h4:=wth_drop (xs:=a) (i:=i-1);rw[show i-1+1=i by omega]at h4;generalize wth (a.drop i)=w at *
   repeat (first|simp only[go_sem,i4,i6,i5]|simp (disch:=first|exact omg|fail) only[AX,i4,i6,i5]|refine wki ?_|refine vpx [] ?_)
   refine⟨⟨i-1,?_,by omega,?_⟩,by omega⟩
   ·simp only[Int.natCast_sub hi0]
   ·rw[h4,xV,wM]
 ·rw[if_neg (fun g=>h (h2.2 g)),decide_eq_false (fun g=>h (h2.2 g))];clear h2;repeat (first|simp only[go_sem]|simp (disch:=first|exact omg|fail) only[AX]|refine wki ?_|refine vpx [] ?_)
  rfl
end Go.Proofs.YtfknkoeagjonbaaGreat
namespace Go.Proofs.YtfknkoeagjonbaaGreat
open Go.Ev
def Out (s:St) (t d:Nat) (c:List Nat):Prop:=(c=[]/\s.tmp t = .nil/\s.gen d=0)\/(c≠[]/\s.tmp t = .ref d 0 1 0 c.length/\s.obj d 0=some (c.map limb))
theorem getD_ge {xs:List Nat} {i:Nat} (h:xs.length<=i:=by omega):xs.getD i 0=0:=by
 rw[xW,xl h];rfl
theorem wth_snoc (c:List Nat) (x:Nat):wth (c++[x])=wth c+4294967296^c.length*x:=by
 rw[wth_append,wth_cons,wth_nil,yX,yE]
theorem ref1_Add (xs ys:List Nat) (hx:okL xs) (hy:okL ys) (hl:xs.length<=1073741824:=by omega) (hm:ys.length<=1073741824:=by omega):Go.Ev.Fn CX 67 [natV xs,natV ys] (natV (lim (wth xs+wth ys))):=by
 refine fni Tryz.f67 ?_;unfold Tryz.f67;repeat (first|simp only[go_sem]|simp (disch:=first|exact omg|fail) only[AX]|refine wki ?_|refine vpx [] ?_)
 refine vp_loop_inv (fun s=>s.tmp 0 = .sv (natV xs)/\s.tmp 1 = .sv (natV ys) /\ ∃c:List Nat,∃carry:Nat,Out s 5 31 c/\s.tmp 6 = .sv (.int .u64 carry)/\s.tmp 7 = .sv (.int .i64 c.length)/\okL c/\carry<=1/\c.length<=max xs.length ys.length+1 /\
   wth c+4294967296^c.length*carry=wth (xs.take c.length)+wth (ys.take c.length))
  (fun s=>match s.tmp 7 with | .sv (.int _ i)=>max xs.length ys.length+1-i.toNat|_=>0) ?_ ?_
 ·exact⟨rfl,rfl,[],0,.inl ⟨rfl,rfl,rfl⟩,rfl,rfl,okL_nil,by omega,by simp,by simp[wth]⟩
 rintro s ⟨i0,i1,c,carry,hO,i6,i7,hc,hcar,hcl,hv⟩
 have emax:(if (ys.length:Int)>(xs.length:Int) then (ys.length:Int) else (xs.length:Int))=((max xs.length ys.length:Nat):Int):=by split<;>omega
 generalize hmx:max xs.length ys.length=mx at *
 by_cases hend:c.length=mx+1
 ·rcases hO with⟨rfl,i5,ig⟩|⟨hne,i5,iO⟩
  ·simp at hend
  ·repeat (first|simp only[go_sem,i0,i1,i6,i7,i5,iO,emax]|simp (disch:=first|exact omg|fail) only[AX,i0,i1,i6,i7,i5,iO,emax]|refine wki ?_|refine vpx [] ?_)
   refine vf_of (fn_natV (ref1_Trim c hc) rfl) ?_;repeat (first|simp only[go_sem,i0,i1,i6,i7,i5,iO,emax]|simp (disch:=first|exact omg|fail) only[AX,i0,i1,i6,i7,i5,iO,emax]|refine wki ?_|refine vpx [] ?_)
   have h1:wth c=wth xs+wth ys:=by
    rw[xq (by omega),xq (by omega),hend]at hv;have h2:=wth_lt hx;have h3:=wth_lt hy;have h4:(4294967296:Nat)^xs.length<=4294967296^mx:=xD (by omega) (by omega);have h5:(4294967296:Nat)^ys.length<=4294967296^mx:=xD (by omega) (by omega);rcases xo carry with rfl|h6
    ·rw[yX,yE]at hv;exact hv
    ·have h7:4294967296^(mx+1)*1<=4294967296^(mx+1)*carry:=xI _ h6;rw[xU]at *
     exfalso;generalize 4294967296^mx=P at *
     omega
   rw[h1]
 ·have h1:=getD_lt hx c.length;have h2:=getD_lt hy c.length;have key : ∀x:Nat,x=carry+xs.getD c.length 0+ys.getD c.length 0->okL (c++[x%4294967296])/\x/4294967296<=1/\(c++[x%4294967296]).length<=mx+1/\wth (c++[x%4294967296])+4294967296^(c++[x%4294967296]).length*(x/4294967296)=wth (xs.take (c++[x%4294967296]).length)+wth (ys.take (c++[x%4294967296]).length):=by
   intro x hx;rw[yG,List.length_singleton,wth_snoc,wth_take_succ,wth_take_succ];refine⟨okL_append.2 ⟨hc,by simp[okL];omega⟩,by omega,by omega,?_⟩;have e1:4294967296^c.length*(x%4294967296)+4294967296^(c.length+1)*(x/4294967296)=4294967296^c.length*x:=by
    rw[xU,xP,<- xY,wE]
   have e2:4294967296^c.length*x=4294967296^c.length*carry+4294967296^c.length*xs.getD c.length 0+4294967296^c.length*ys.getD c.length 0:=by
    rw[hx,xY,xY]
   omega
  rcases hO with⟨rfl,i5,ig⟩|⟨hne,i5,iO⟩
  ·have key:=key _ rfl;clear hv;generalize hxi:xs.getD ([]:List Nat).length 0=x at *
   generalize hyi:ys.getD ([]:List Nat).length 0=y at *
   rw[List.length_nil]at hxi hyi;repeat (first|simp only[go_sem,i0,i1,i6,i7,i5,ig,emax,N0]|simp (disch:=first|exact omg|fail) only[AX,i0,i1,i6,i7,i5,ig,emax,N0]|refine wki ?_|refine vpx [] ?_)
   refine vf_of (ref1_at xs 0 hx) ?_;repeat (first|simp only[go_sem,i0,i1,i6,i7,i5,ig,emax,N0,hxi]|simp (disch:=first|exact omg|fail) only[AX,i0,i1,i6,i7,i5,ig,emax,N0,hxi]|refine wki ?_|refine vpx [] ?_)
   refine vf_of (ref1_at ys 0 hy) ?_;repeat (first|simp only[go_sem,i0,i1,i6,i7,i5,ig,emax,N0,hyi]|simp (disch:=first|exact omg|fail) only[AX,i0,i1,i6,i7,i5,ig,emax,N0,hyi]|refine wki ?_|refine vpx [] ?_)
   exact⟨⟨_,_,.inr ⟨by simp,rfl,by simp[St.put,St.new,ig]⟩,rfl,rfl,key⟩,by omega⟩
  ·have key:=key _ rfl;clear hv;generalize hxi:xs.getD c.length 0=x at *
   generalize hyi:ys.getD c.length 0=y at *
   repeat (first|simp only[go_sem,i0,i1,i6,i7,i5,iO,emax,N0]|simp (disch:=first|exact omg|fail) only[AX,i0,i1,i6,i7,i5,iO,emax,N0]|refine wki ?_|refine vpx [] ?_)
   refine vf_of (ref1_at xs c.length hx) ?_;repeat (first|simp only[go_sem,i0,i1,i6,i7,i5,iO,emax,N0,hxi]|simp (disch:=first|exact omg|fail) only[AX,i0,i1,i6,i7,i5,iO,emax,N0,hxi]|refine wki ?_|refine vpx [] ?_)
   refine vf_of (ref1_at ys c.length hy) ?_;repeat (first|simp only[go_sem,i0,i1,i6,i7,i5,iO,emax,N0,hyi]|simp (disch:=first|exact omg|fail) only[AX,i0,i1,i6,i7,i5,iO,emax,N0,hyi]|refine wki ?_|refine vpx [] ?_)
   exact⟨⟨c++[(carry+x+y)%4294967296],_,.inr ⟨by simp,by rw[yG];rfl,by simp[St.put,St.new,St.grow]⟩,rfl,by rw[yG];rfl,key⟩,by omega⟩
theorem wth_take_all {ys:List Nat} {n:Nat} (h:wth ys<4294967296^n:=by omega):wth (ys.take n)=wth ys:=by
 rcases xi ys.length n with h1|h1
 ·rw[xq (by omega)]
 ·have e:wth ys=wth (ys.take n)+4294967296^n*wth (ys.drop n):=by
   conv=>lhs;rw[<- zu n ys,wth_append]
   rw[yO,yx h1]
  rcases xo (wth (ys.drop n)) with h2|h2
  ·rw[h2,yX,yE]at e;exact e.symm
  ·have:4294967296^n*1<=4294967296^n*wth (ys.drop n):=xI _ h2;omega
theorem ref1_Sub (xs ys:List Nat) (hx:okL xs) (hy:okL ys) (hl:xs.length<=1073741824:=by omega) (hm:ys.length<=1073741824:=by omega) :
  Go.Ev.Fn CX 75 [natV xs,natV ys] (.tup [natV (lim (wth xs-wth ys)),.bool (decide (wth ys<=wth xs))]):=by
 refine fni Tryz.f75 ?_;unfold Tryz.f75;have hcmp:=ref1_Cmp xs ys hx hy;repeat (first|simp only[go_sem]|simp (disch:=first|exact omg|fail) only[AX]|refine wki ?_|refine vpx [] ?_)
 by_cases hlt:wth xs<wth ys
 ·rw[cmpN_lt hlt]at hcmp;rw[show wth xs-wth ys=0 by omega,lim_zero,decide_eq_false (by omega)];refine vfa ?_;repeat (first|simp only[go_sem]|simp (disch:=first|exact omg|fail) only[AX]|refine wki ?_|refine vpx [] ?_)
  rfl
 have h0:=cmpN_ge (by omega:wth ys<=wth xs);rw[decide_eq_true (show wth ys<=wth xs by omega)];refine vfa ?_;repeat (first|simp only[go_sem,h0]|simp (disch:=first|exact omg|fail) only[AX,h0]|refine wki ?_|refine vpx [] ?_)
 clear hcmp h0;refine vp_loop_inv (fun s=>s.tmp 0 = .sv (natV xs)/\s.tmp 1 = .sv (natV ys) /\ ∃c:List Nat,∃bor:Nat,Out s 6 40 c/\s.tmp 7 = .sv (.int .u64 bor)/\s.tmp 8 = .sv (.int .i64 c.length)/\okL c/\bor<=1/\c.length<=xs.length /\
   wth c+wth (ys.take c.length)=wth (xs.take c.length)+4294967296^c.length*bor)
  (fun s=>match s.tmp 8 with | .sv (.int _ i)=>xs.length-i.toNat|_=>0) ?_ ?_
 ·exact⟨rfl,rfl,[],0,.inl ⟨rfl,rfl,rfl⟩,rfl,rfl,okL_nil,by omega,by simp,by simp[wth]⟩
 rintro s ⟨i0,i1,c,bor,hO,i7,i8,hc,hcar,hcl,hv⟩
 by_cases hend:c.length=xs.length
 ·have h1:wth c=wth xs-wth ys:=by
   have h2:=wth_lt hx;rw[hend,wV,wth_take_all]at hv;have h3:=wth_lt hc;rw[hend]at h3;rcases xo bor with rfl|h6
   ·rw[yX,yE]at hv;omega
   ·have h7:4294967296^xs.length*1<=4294967296^xs.length*bor:=xI _ h6;omega
  rw[<- h1];rcases hO with⟨rfl,i6,ig⟩|⟨hne,i6,iO⟩
  ·rw[List.length_nil]at hend;repeat (first|simp only[go_sem,i0,i1,i6,i7,i8]|simp (disch:=first|exact omg|fail) only[AX,i0,i1,i6,i7,i8]|refine wki ?_|refine vpx [] ?_)
   refine vf_of (ref1_Trim [] okL_nil (by simp)) ?_;repeat (first|simp only[go_sem,i0,i1,i6,i7,i8]|simp (disch:=first|exact omg|fail) only[AX,i0,i1,i6,i7,i8]|refine wki ?_|refine vpx [] ?_)
  ·repeat (first|simp only[go_sem,i0,i1,i6,i7,i8,iO]|simp (disch:=first|exact omg|fail) only[AX,i0,i1,i6,i7,i8,iO]|refine wki ?_|refine vpx [] ?_)
   refine vf_of (fn_natV (ref1_Trim c hc) rfl) ?_;repeat (first|simp only[go_sem,i0,i1,i6,i7,i8,iO]|simp (disch:=first|exact omg|fail) only[AX,i0,i1,i6,i7,i8,iO]|refine wki ?_|refine vpx [] ?_)
 ·have h1:=getD_lt hx c.length;have h2:=getD_lt hy c.length;have key : ∀z b,z<4294967296->b<=1->xs.getD c.length 0+4294967296*b=z+(ys.getD c.length 0+bor)->okL (c++[z])/\b<=1/\(c++[z]).length<=xs.length/\wth (c++[z])+wth (ys.take (c++[z]).length)=wth (xs.take (c++[z]).length)+4294967296^(c++[z]).length*b:=by
   intro z b hz hb he;rw[yG,List.length_singleton,wth_snoc,wth_take_succ,wth_take_succ];refine⟨okL_append.2 ⟨hc,by simp[okL];omega⟩,by omega,by omega,?_⟩;have e1:4294967296^c.length*xs.getD c.length 0+4294967296^(c.length+1)*b=4294967296^c.length*z+4294967296^c.length*ys.getD c.length 0+4294967296^c.length*bor:=by
    rw[xU,xP,<- xY,he,xY,xY,zR]
   omega
  clear hv;rcases hO with⟨rfl,i6,ig⟩|⟨hne,i6,iO⟩
  ·generalize hxi:xs.getD ([]:List Nat).length 0=x at *
   generalize hyi:ys.getD ([]:List Nat).length 0=y at *
   rw[List.length_nil]at hxi hyi;by_cases hxy:x<y+bor
   ·have h9:(x:Int)+4294967296=((x+4294967296:Nat):Int):=by omega
    repeat (first|simp only[go_sem,h9,i0,i1,i6,i7,i8,ig,N0]|simp (disch:=first|exact omg|fail) only[AX,h9,i0,i1,i6,i7,i8,ig,N0]|refine wki ?_|refine vpx [] ?_)
    refine vf_of (ref1_at xs 0 hx) ?_;repeat (first|simp only[go_sem,h9,i0,i1,i6,i7,i8,ig,N0,hxi]|simp (disch:=first|exact omg|fail) only[AX,h9,i0,i1,i6,i7,i8,ig,N0,hxi]|refine wki ?_|refine vpx [] ?_)
    refine vf_of (ref1_at ys 0 hy) ?_;repeat (first|simp only[go_sem,h9,i0,i1,i6,i7,i8,ig,N0,hyi]|simp (disch:=first|exact omg|fail) only[AX,h9,i0,i1,i6,i7,i8,ig,N0,hyi]|refine wki ?_|refine vpx [] ?_)
    exact⟨⟨[x+4294967296-(y+bor)],1,.inr ⟨by simp,rfl,by simp[St.put,St.new,ig]⟩,rfl,rfl,key _ 1 (by omega) (by omega) (by omega)⟩,by omega⟩
   ·repeat (first|simp only[go_sem,i0,i1,i6,i7,i8,ig,N0]|simp (disch:=first|exact omg|fail) only[AX,i0,i1,i6,i7,i8,ig,N0]|refine wki ?_|refine vpx [] ?_)
    refine vf_of (ref1_at xs 0 hx) ?_;repeat (first|simp only[go_sem,i0,i1,i6,i7,i8,ig,N0,hxi]|simp (disch:=first|exact omg|fail) only[AX,i0,i1,i6,i7,i8,ig,N0,hxi]|refine wki ?_|refine vpx [] ?_)
    refine vf_of (ref1_at ys 0 hy) ?_;repeat (first|simp only[go_sem,i0,i1,i6,i7,i8,ig,N0,hyi]|simp (disch:=first|exact omg|fail) only[AX,i0,i1,i6,i7,i8,ig,N0,hyi]|refine wki ?_|refine vpx [] ?_)
    exact⟨⟨[x-(y+bor)],0,.inr ⟨by simp,rfl,by simp[St.put,St.new,ig]⟩,rfl,rfl,key _ 0 (by omega) (by omega) (by omega)⟩,by omega⟩
  ·generalize hxi:xs.getD c.length 0=x at *
   generalize hyi:ys.getD c.length 0=y at *
   by_cases hxy:x<y+bor
   ·have h9:(x:Int)+4294967296=((x+4294967296:Nat):Int):=by omega
    repeat (first|simp only[go_sem,h9,i0,i1,i6,i7,i8,iO,N0]|simp (disch:=first|exact omg|fail) only[AX,h9,i0,i1,i6,i7,i8,iO,N0]|refine wki ?_|refine vpx [] ?_)
    refine vf_of (ref1_at xs c.length hx) ?_;repeat (first|simp only[go_sem,h9,i0,i1,i6,i7,i8,iO,N0,hxi]|simp (disch:=first|exact omg|fail) only[AX,h9,i0,i1,i6,i7,i8,iO,N0,hxi]|refine wki ?_|refine vpx [] ?_)
    refine vf_of (ref1_at ys c.length hy) ?_;repeat (first|simp only[go_sem,h9,i0,i1,i6,i7,i8,iO,N0,hyi]|simp (disch:=first|exact omg|fail) only[AX,h9,i0,i1,i6,i7,i8,iO,N0,hyi]|refine wki ?_|refine vpx [] ?_)
    exact⟨⟨c++[x+4294967296-(y+bor)],1,.inr ⟨by simp,by rw[yG];rfl,by simp[St.put,St.new,St.grow]⟩,rfl,by rw[yG];rfl,key _ 1 (by omega) (by omega) (by omega)⟩,by omega⟩
   ·repeat (first|simp only[go_sem,i0,i1,i6,i7,i8,iO,N0]|simp (disch:=first|exact omg|fail) only[AX,i0,i1,i6,i7,i8,iO,N0]|refine wki ?_|refine vpx [] ?_)
    refine vf_of (ref1_at xs c.length hx) ?_;repeat (first|simp only[go_sem,i0,i1,i6,i7,i8,iO,N0,hxi]|simp (disch:=first|exact omg|fail) only[AX,i0,i1,i6,i7,i8,iO,N0,hxi]|refine wki ?_|refine vpx [] ?_)
    refine vf_of (ref1_at ys c.length hy) ?_;repeat (first|simp only[go_sem,i0,i1,i6,i7,i8,iO,N0,hyi]|simp (disch:=first|exact omg|fail) only[AX,i0,i1,i6,i7,i8,iO,N0,hyi]|refine wki ?_|refine vpx [] ?_)
    exact⟨⟨c++[x-(y+bor)],0,.inr ⟨by simp,by rw[yG];rfl,by simp[St.put,St.new,St.grow]⟩,rfl,by rw[yG];rfl,key _ 0 (by omega) (by omega) (by omega)⟩,by omega⟩
end Go.Proofs.YtfknkoeagjonbaaGreat
namespace Go.Proofs.YtfknkoeagjonbaaGreat
open Go.Ev
theorem ref1_Mul (xs ys:List Nat) (hx:okL xs) (hy:okL ys) (hl:xs.length<=1073741824:=by omega) (hm:ys.length<=1073741824:=by omega) :
  Go.Ev.Fn CX 74 [natV xs,natV ys] (natV (lim (wth xs*wth ys))):=by
 refine fni Tryz.f74 ?_;unfold Tryz.f74;repeat (first|simp only[go_sem]|simp (disch:=first|exact omg|fail) only[AX]|refine wki ?_)
 refine vp_loop_inv (fun s'=>s'.tmp 0 = .sv (natV xs)/\s'.tmp 1 = .sv (natV ys)/\s'.tmp 5 = .ref 14 0 1 0 (xs.length+ys.length) /\
   ∃c:List Nat,∃i:Nat,s'.obj 14 0=some (c.map limb)/\s'.tmp 6 = .sv (.int .i64 i)/\c.length=xs.length+ys.length/\okL c/\i<=xs.length/\(∀j,i+ys.length<=j->c.getD j 0=0) /\
    wth (c.take (i+ys.length))=wth (xs.take i)*wth ys)
  (fun s=>match s.tmp 6 with | .sv (.int _ i)=>xs.length-i.toNat|_=>0) ?_ ?_
 ·refine⟨rfl,rfl,rfl,List.replicate (xs.length+ys.length) 0,0,rfl,rfl,yR ..,okL_replicate _,by omega,fun j _ => ?_,?_⟩
  ·simp only[xW,List.getElem?_replicate];split<;>rfl
  ·rw[List.take_replicate,wth_replicate,List.take_zero,wth_nil,zY]
 rintro s' ⟨i0,i1,i5,c0,i,iO,i6,hc0,hok0,hi,hz,hv⟩
 by_cases hend:i=xs.length
 ·subst hend;repeat (first|simp only[go_sem,i0,i1,i5,iO,i6]|simp (disch:=first|exact omg|fail) only[AX,i0,i1,i5,iO,i6]|refine wki ?_|refine vpx [] ?_)
  refine vf_of (fn_natV (ref1_Trim c0 hok0) hc0) ?_;repeat (first|simp only[go_sem,i0,i1,i5,iO,i6]|simp (disch:=first|exact omg|fail) only[AX,i0,i1,i5,iO,i6]|refine wki ?_|refine vpx [] ?_)
  have e:wth c0=wth xs*wth ys:=by
   rw[xq (by omega),xq (xQ _)]at hv;exact hv
  rw[e]
 ·have h1:=getD_lt hx i;have hvs:=wth_take_succ xs i;have hz0:=hz (i+ys.length) (xQ _);repeat (first|simp only[go_sem,i0,i1,i5,iO,i6]|simp (disch:=first|exact omg|fail) only[AX,i0,i1,i5,iO,i6]|refine wki ?_|refine vpx [] ?_)
  generalize hvv:xs.getD i 0=v at *
  refine vp_loop_inv (fun s'=>s'.tmp 0 = .sv (natV xs)/\s'.tmp 1 = .sv (natV ys)/\s'.tmp 5 = .ref 14 0 1 0 (xs.length+ys.length)/\s'.tmp 6 = .sv (.int .i64 i) /\
    ∃c:List Nat,∃k carry:Nat,s'.obj 14 0=some (c.map limb)/\s'.tmp 8 = .sv (.int .i64 k)/\s'.tmp 7 = .sv (.int .u64 carry)/\c.length=xs.length+ys.length/\okL c/\k<=ys.length+1/\carry<4294967296/\(k=ys.length+1->carry=0) /\
     (∀j,i+k<=j->c.getD j 0=c0.getD j 0)/\wth (c.take (i+k))+4294967296^(i+k)*carry=wth (c0.take (i+k))+4294967296^i*(v*wth (ys.take k)))
   (fun s=>match s.tmp 8 with | .sv (.int _ i)=>ys.length+1-i.toNat|_=>0) ?_ ?_
  ·refine⟨i0,i1,i5,i6,c0,0,0,iO,rfl,rfl,hc0,hok0,by omega,by omega,fun _=>rfl,fun _ _=>rfl,?_⟩;rw[List.take_zero,wth_nil,yX,yX,yX]
  rintro s2 ⟨j0,j1,j5,j6,c,k,carry,jO,j8,j7,hc,hok,hk,hcar,hcz,hsame,hw⟩
  by_cases hend2:ys.length<=k/\carry=0
  ·obtain⟨hk2,rfl⟩:=hend2;have hfin:wth (c.take (i+1+ys.length))=wth (xs.take (i+1))*wth ys:=by
    rw[yX,yE,xq (l:=ys) hk2]at hw;have hc0t:wth (c0.take (i+ys.length+1))=wth (c0.take (i+ys.length)):=by rw[wth_take_succ,hz0,yX,yE]
    have hgoal:wth (c.take (i+ys.length+1))=wth (c0.take (i+ys.length))+4294967296^i*(v*wth ys):=by
     rcases xi ys.length k with h3|h3
     ·obtain rfl:k=ys.length+1:=by omega
      rw[<- zR,hc0t]at hw;exact hw
     ·obtain rfl:k=ys.length:=by omega
      rw[wth_take_succ,hsame _ (xQ _),hz0,yX,yE,hw]
    rw[show i+1+ys.length=i+ys.length+1 by omega,hgoal,hv,hvs,xZ,xP]
   have hc' : ∀j,i+1+ys.length<=j->c.getD j 0=0:=fun j hj=>(hsame j (by omega)).trans (hz j (by omega))
   clear hw hcz hsame hvs hv hz;by_cases hk3:k<ys.length
   ·omega
   ·repeat (first|simp only[go_sem,j0,j1,j5,j6,jO,j8,j7]|simp (disch:=first|exact omg|fail) only[AX,j0,j1,j5,j6,jO,j8,j7]|refine wki ?_|refine vpx [] ?_)
    exact⟨⟨c,i+1,rfl,rfl,hc,hok,by omega,hc',hfin⟩,by omega⟩
  ·have hk4:k<=ys.length:=by
    rcases xi ys.length k with h3|h3
    ·exact absurd ⟨by omega,hcz (by omega)⟩ hend2
    ·exact h3
   have h2:=getD_lt hy k;have h3:=getD_lt hok (i+k);have h4:=limb_mul h1 h2;have hs:=hsame (i+k) (xQ _);have hys:=wth_take_succ ys k;have hzk:k=ys.length->ys.getD k 0=0/\c.getD (i+k) 0=0:=fun h=>⟨getD_ge,by rw[hs,h,hz0]⟩
   generalize hww:ys.getD k 0=w at *
   generalize hu:c.getD (i+k) 0=u at *
   have hnew : ∀x,carry+v*w+u=x->wth ((c.set (i+k) (x%4294967296)).take (i+(k+1)))+4294967296^(i+(k+1))*(x/4294967296)=wth (c0.take (i+(k+1)))+4294967296^i*(v*wth (ys.take (k+1))):=by
    intro x hx;rw[show i+(k+1)=i+k+1 by omega,wth_set_take (by omega),wth_take_succ c0,<- hs,hys];have e1:4294967296^(i+k)*(x%4294967296)+4294967296^(i+k+1)*(x/4294967296)=4294967296^(i+k)*x:=by
     rw[xU,xP,<- xY,wE]
    have e2:4294967296^(i+k)*x=4294967296^(i+k)*carry+4294967296^(i+k)*(v*w)+4294967296^(i+k)*u:=by
     rw[<- hx,xY,xY]
    have e3:4294967296^i*(v*(wth (ys.take k)+4294967296^k*w))=4294967296^i*(v*wth (ys.take k))+4294967296^(i+k)*(v*w):=by
     rw[xY,xY,xM,ym v,<- xP (4294967296^i) (4294967296^k)]
    rw[e3];omega
   have hcz' : ∀x,carry+v*w+u=x->k+1=ys.length+1->x/4294967296=0:=by
    intro x hx h;obtain⟨rfl,rfl⟩:=hzk (by omega);rw[yX,yE]at hx;omega
   generalize hp:v*w=p at *
   have hnew:=hnew _ rfl;have hcz':=hcz' _ rfl;clear hw hcz hvs hv hys hzk;by_cases hk5:k<ys.length
   ·repeat (first|simp only[go_sem,j0,j1,j5,j6,jO,j8,j7]|simp (disch:=first|exact omg|fail) only[AX,j0,j1,j5,j6,jO,j8,j7]|refine wki ?_)
    refine vpx [1] ?_;repeat (first|simp only[go_sem,j0,j1,j5,j6,jO,j8,j7]|simp (disch:=first|exact omg|fail) only[AX,j0,j1,j5,j6,jO,j8,j7]|refine wki ?_|refine vpx [] ?_)
    refine vf_of (ref1_at ys k hy) ?_;repeat (first|simp only[go_sem,j0,j1,j5,j6,jO,j8,j7,hvv,hww,hp,hu]|simp (disch:=first|exact omg|fail) only[AX,j0,j1,j5,j6,jO,j8,j7,hvv,hww,hp,hu]|refine wki ?_|refine vpx [] ?_)
    exact⟨⟨c.set (i+k) ((carry+p+u)%4294967296),k+1,(carry+p+u)/4294967296,rfl,rfl,rfl,by rw[yN];exact hc,okL_set hok _ _ (yI _ (by omega)),by omega,by omega,hcz',fun j hj=>(getD_set_ne).trans (hsame j (by omega)),hnew⟩,by omega⟩
   ·have hcp:0<carry:=by
     rcases xo carry with h|h
     ·exact absurd ⟨by omega,h⟩ hend2
     ·exact h
    repeat (first|simp only[go_sem,j0,j1,j5,j6,jO,j8,j7]|simp (disch:=first|exact omg|fail) only[AX,j0,j1,j5,j6,jO,j8,j7]|refine wki ?_)
    refine vpx [1] ?_;repeat (first|simp only[go_sem,j0,j1,j5,j6,jO,j8,j7]|simp (disch:=first|exact omg|fail) only[AX,j0,j1,j5,j6,jO,j8,j7]|refine wki ?_|refine vpx [] ?_)
    refine vf_of (ref1_at ys k hy) ?_;repeat (first|simp only[go_sem,j0,j1,j5,j6,jO,j8,j7,hvv,hww,hp,hu]|simp (disch:=first|exact omg|fail) only[AX,j0,j1,j5,j6,jO,j8,j7,hvv,hww,hp,hu]|refine wki ?_|refine vpx [] ?_)
    have e1:(carry+p+u)%4294967296=carry+p+u:=by omega
    rw[e1]at hnew;exact⟨⟨c.set (i+k) (carry+p+u),k+1,(carry+p+u)/4294967296,rfl,rfl,rfl,by rw[yN];exact hc,okL_set hok _ _,by omega,by omega,hcz',fun j hj=>(getD_set_ne).trans (hsame j (by omega)),hnew⟩,by omega⟩
end Go.Proofs.YtfknkoeagjonbaaGreat
namespace Go.Proofs.YtfknkoeagjonbaaGreat
open Go.Ev
theorem or_low2 {k:Nat} (v low:Nat) (h:low<2^k):v*2^k |||low=v*2^k+low:=by
 rw[xV];exact(Nat.two_pow_add_eq_or_of_lt h v).symm
theorem pow_split {k:Nat} (h:k<32):2^k*2^(32-k)=4294967296:=by rw[<- xM,show k+(32-k)=32 by omega]
theorem shl_limb {k v low:Nat} (hk:k<32) (hv:v<4294967296) (hl:low<2^k) :
  v*2^k+low<18446744073709551616/\(v*2^k+low)%4294967296+4294967296*(v*2^k/4294967296)=v*2^k+low/\v*2^k/4294967296<2^k:=by
 have hDE:=pow_split hk;have hk2:(2:Nat)^k<=2147483648:=xD (n:=2) (by omega) (show k<=31 by omega);have h1:v*2^k<=4294967295*2^k:=xC _ (by omega);have hmod:v*2^k%4294967296=2^k*(v%2^(32-k)):=by
  conv=>lhs;rw[<- hDE]
  rw[xV v,Nat.mul_mod_mul_left]
 have h3:v%2^(32-k)+1<=2^(32-k):=yI _ (xK (by omega));have h4:2^k*(v%2^(32-k)+1)<=2^k*2^(32-k):=xI _ h3;rw[hDE,xY,yD,<- hmod]at h4;generalize v*2^k=x at *
 generalize 2^k=D at *
 omega
theorem ref1_shift_up (xs:List Nat) (m:Nat) (hx:okL xs) (hl:xs.length<=1073741824) (s:Int) (hs:s=(m:Int)) (hm:m<=4096:=by omega) :
  Go.Ev.Fn CX 73 [natV xs,.int .i64 s] (natV (lim (wth xs*2^m))):=by
 refine fni Tryz.f73 ?_;unfold Tryz.f73;have lx:=lim_length_le hx;subst hs;have e1:(if (-4096:Int)>(m:Int) then (-4096:Int) else (m:Int))=(m:Int):=if_neg (by omega);have e2:(if (4096:Int)<(m:Int) then (4096:Int) else (m:Int))=(m:Int):=if_neg (by omega);repeat (first|simp only[go_sem,e1,e2]|simp (disch:=first|exact omg|fail) only[AX,e1,e2]|refine wki ?_|refine vpx [] ?_)
 refine vf_of (ref1_Trim xs hx) ?_;repeat (first|simp only[go_sem,e1,e2,tdiv32,tmod32]|simp (disch:=first|exact omg|fail) only[AX,e1,e2,tdiv32,tmod32]|refine wki ?_|refine vpx [] ?_)
 have ha:=okL_lim (wth xs);have va:=wth_lim (wth xs);generalize lim (wth xs)=a at *
 rw[<- va];clear va;have hk:m%32<32:=yI _ (by omega);have hpow:2^m=4294967296^(m/32)*2^(m%32):=by
  rw[show (4294967296:Nat)=2^32 by rfl,<- zF,<- xM,yl]
 rw[hpow];generalize m%32=k at *
 have hw128:m/32<=128:=by omega
 generalize m/32=w at *
 refine vp_loop_inv (fun s'=>s'.tmp 5 = .sv (natV a)/\s'.tmp 11 = .sv (.int .u64 k) /\ ∃c:List Nat,∃low:Nat,s'.tmp 10 = .ref 61 0 1 0 (w+c.length)/\s'.obj 61 0=some ((List.replicate w 0++c).map limb)/\s'.tmp 12 = .sv (.int .u64 low)/\s'.tmp 13 = .sv (.int .i64 c.length) /\
   okL c/\c.length<=a.length+1/\low<2^k/\wth c+4294967296^c.length*low=wth (a.take c.length)*2^k)
  (fun s=>match s.tmp 13 with | .sv (.int _ i)=>a.length+1-i.toNat|_=>0) ?_ ?_
 ·exact⟨rfl,rfl,[],0,rfl,by rw[List.append_nil];rfl,rfl,rfl,okL_nil,by simp,xK (by omega),by rw[List.length_nil,List.take_zero,wth_nil,zY,yX]⟩
 clear e1 e2;rintro s' ⟨i5,i11,c,low,i10,iO,i12,i13,hc,hcl,hlow,hv⟩
 have hDl:2^k<=2147483648:=xD (n:=2) (by omega) (show k<=31 by omega);by_cases hend:c.length=a.length+1
 ·have hfin:wth (List.replicate w 0++c)=wth a*(4294967296^w*2^k):=by
   rw[wth_append,wth_replicate,yV,yR,ym];congr 1;rw[hend,xq (by omega)]at hv;rcases xo low with rfl|h0
   ·rw[yX,yE]at hv;exact hv
   ·exfalso;have h1:=wth_lt ha;have h2:wth a*2^k<4294967296^a.length*4294967296:=xz (yq h1 (xK (by omega))) (xI _ (by omega));have h3:4294967296^(a.length+1)*1<=4294967296^(a.length+1)*low:=xI _ h0;rw[xU]at h3 hv;generalize 4294967296^a.length*4294967296=P at *
    omega
  have hrl:(List.replicate w 0++c).length=w+c.length:=by rw[yG,yR]
  have hro:okL (List.replicate w 0++c):=okL_append.2 ⟨okL_replicate _,hc⟩;clear hv hc;generalize List.replicate w 0++c=r at *
  repeat (first|simp only[go_sem,i5,i11,i10,iO,i12,i13]|simp (disch:=first|exact omg|fail) only[AX,i5,i11,i10,iO,i12,i13]|refine wki ?_|refine vpx [] ?_)
  refine vf_of (fn_natV (ref1_Trim r hro) hrl) ?_;repeat (first|simp only[go_sem,i5,i11,i10,iO,i12,i13]|simp (disch:=first|exact omg|fail) only[AX,i5,i11,i10,iO,i12,i13]|refine wki ?_|refine vpx [] ?_)
  rw[hfin]
 ·have h1:=getD_lt ha c.length;have ht:=wth_take_succ a c.length;have hor:=or_low2 (a.getD c.length 0) low hlow;obtain⟨g1,g2,g3⟩:=shl_limb hk h1 hlow;generalize hvv:a.getD c.length 0=v at *
  have hv' : ∀z,z=(v*2^k+low)%4294967296->wth (c++[z])+4294967296^(c++[z]).length*(v*2^k/4294967296)=wth (a.take (c++[z]).length)*2^k:=by
   intro z hz;rw[yG,List.length_singleton,wth_snoc,ht,xZ,<- hv,hz,xU,xP (4294967296^c.length) 4294967296,zR,<- xY,g2,xY,xP];omega
  have hj:bitsSV .or .u64 ((v*2^k:Nat):Int) (low:Int)=some (.int .u64 ((v*2^k+low:Nat):Int)):=by
   rw[b_or64,hor]
  have hw64:v*2^k%18446744073709551616=v*2^k:=yB (by omega);clear hv ht hpow;have hk64:min k 64=k:=by omega
  repeat (first|simp only[go_sem,i5,i11,i10,iO,i12,i13,N0]|simp (disch:=first|exact omg|fail) only[AX,i5,i11,i10,iO,i12,i13,N0]|refine wki ?_|refine vpx [] ?_)
  refine vf_of (ref1_at a c.length ha) ?_;repeat (first|simp only[go_sem,i5,i11,i10,iO,i12,i13,N0,hvv,hj,hw64,hk64]|simp (disch:=first|exact omg|fail) only[AX,i5,i11,i10,iO,i12,i13,N0,hvv,hj,hw64,hk64]|refine wki ?_|refine vpx [] ?_)
  have hz:(v*2^k+low)%4294967296<4294967296:=yI _ (by omega);refine⟨⟨c++[(v*2^k+low)%4294967296],v*2^k/4294967296,by rw[yG];rfl,by rw[<- List.append_assoc,List.map_append (l₂:=[_])];rfl,rfl,by rw[yG];rfl,okL_append.2 ⟨hc,okL_cons.2 ⟨hz,okL_nil⟩⟩,by rw[yG,List.length_singleton];omega,g3,hv' _ rfl⟩,by omega⟩
theorem shr_limb {k x y z W:Nat} (hk:k<32) (hW:W=x+4294967296*(y+4294967296*z)):W/2^k%4294967296=(x+4294967296*y)/2^k%4294967296/\W/2^k/4294967296=(y+4294967296*z)/2^k \/ ¬x<4294967296:=by
 by_cases hx:x<4294967296
 ·left;have h1:2^k*4294967296*2^(32-k)=4294967296*4294967296:=by rw[wl,pow_split hk]
  constructor
  ·rw[<- Nat.mod_mul_right_div_self,<- Nat.mod_mul_right_div_self];congr 1;have h2:W=x+4294967296*y+2^k*4294967296*(2^(32-k)*z):=by
    rw[<- xP,h1,hW,xY,zR,xP]
   rw[h2,Nat.add_mul_mod_self_left]
  ·rw[zk,xV,<- zk];congr 1;rw[hW,wZ _ _ (by omega),yn hx,yV]
 ·exact .inr hx
theorem or_high {x y:Nat} (hx:x<4294967296):x |||y*4294967296=x+4294967296*y:=by
 rw[Nat.or_comm,or_add y x hx];omega
end Go.Proofs.YtfknkoeagjonbaaGreat
namespace Go.Proofs.YtfknkoeagjonbaaGreat
open Go.Ev
theorem wth_at (xs:List Nat) {w:Nat} (h:w<xs.length:=by omega):wth xs=wth (xs.take w)+4294967296^w*(xs.getD w 0+4294967296*wth (xs.drop (w+1))):=by
 conv=>lhs;rw[<- zu w xs,wth_append]
 rw[yO,yx (by omega),wth_drop h]
theorem wth_set_add (q:List Nat) {w:Nat} (h:w<q.length) (e:Nat):wth (q.set w (q.getD w 0+e))=wth q+4294967296^w*e:=by
 have h1:=wth_at (q.set w (q.getD w 0+e)) (w:=w) (by rw[yN];exact h);rw[getD_set_self h,List.drop_set_of_lt (by omega),List.take_set_of_le (xQ _)]at h1;rw[h1,wth_at q h];generalize 4294967296*wth (q.drop (w+1))=D;rw[xY,xY,xY];omega
theorem pow_32 (J:Nat):2^J=4294967296^(J/32)*2^(J%32):=by
 rw[show (4294967296:Nat)=2^32 by rfl,<- zF,<- xM,yl]
theorem wth_shr (xs:List Nat) (hx:okL xs) {w:Nat} (h:w<xs.length):wth xs/4294967296^w=xs.getD w 0+4294967296*wth (xs.drop (w+1)):=by
 rw[wth_at xs h,wM,wa (xK (by omega)),yn (wth_low hx w),yE]
theorem bit_get (xs:List Nat) (hx:okL xs) (J:Nat) (h:J/32<xs.length):xs.getD (J/32) 0/2^(J%32)%2=wth xs/2^J%2:=by
 rw[pow_32 J,<- zk,wth_shr xs hx h];have hk:J%32<32:=yI _ (by omega);generalize wth (xs.drop (J/32+1))=Z;generalize xs.getD (J/32) 0=x;generalize J%32=j at *
 have e:x+4294967296*Z=x+2^j*(2*(2^(31-j)*Z)):=by
  rw[<- xP 2,<- Nat.pow_succ',<- xP,show (31-j).succ=32-j by omega,pow_split hk]
 rw[e,wZ _ _ (xK (by omega)),Nat.add_mul_mod_self_left]
theorem bit_set (q:List Nat) (hq:okL q) (J Q:Nat) (h:J/32<q.length) (hv:wth q=Q*2^(J+1)) :
  q.getD (J/32) 0 |||2^(J%32)=q.getD (J/32) 0+2^(J%32)/\q.getD (J/32) 0+2^(J%32)<4294967296/\wth (q.set (J/32) (q.getD (J/32) 0+2^(J%32)))=(2*Q+1)*2^J:=by
 have hk:J%32<32:=yI _ (by omega);have h1:q.getD (J/32) 0=(Q*2^(J%32+1))%4294967296:=by
  have h2:=wth_shr q hq h;rw[hv,xU,pow_32 J,xP,ym,Nat.mul_div_cancel_left _ (xK (by omega)),<- xU]at h2;rw[h2,Nat.add_mul_mod_self_left,yB (getD_lt hq _)]
 have h3:q.getD (J/32) 0=2^(J%32+1)*(Q%2^(31-J%32)):=by
  rw[h1,show (4294967296:Nat)=2^(J%32+1)*2^(31-J%32) by rw[<- xM,show J%32+1+(31-J%32)=32 by omega],xV Q,Nat.mul_mod_mul_left]
 refine⟨?_,?_,?_⟩
 ·rw[h3];exact(Nat.two_pow_add_eq_or_of_lt (zS (by omega) (by omega)) _).symm
 ·have h4:Q%2^(31-J%32)+1<=2^(31-J%32):=yI _ (xK (by omega));have h5:2^(J%32+1)*(Q%2^(31-J%32)+1)<=2^(J%32+1)*2^(31-J%32):=xI _ h4;rw[<- xM,show J%32+1+(31-J%32)=32 by omega,xY,yD,<- h3]at h5;have h6:0<2^(J%32):=xK (by omega);have h7:2^(J%32+1)=2^(J%32)+2^(J%32):=by rw[xU];omega
  have h8:(2:Nat)^32=4294967296:=rfl;omega
 ·rw[wth_set_add q h,hv,<- pow_32 J,xU,xZ,xe,xV (2^J) 2,<- xP,xV Q 2]
theorem bit_step {X y J r b:Nat} (hy:0<y) (hr:r=X/2^(J+1)%y) (hb:b=X/2^J%2) :
  X/2^J%y=(if y<=r*2+b then r*2+b-y else r*2+b)/\X/2^J/y=2*(X/2^(J+1)/y)+(if y<=r*2+b then 1 else 0):=by
 have e1:X/2^J=2*(X/2^(J+1))+b:=by
  rw[xU,<- zk,hb,wM,wE]
 have e2:=yl (X/2^(J+1)) y;rw[<- hr]at e2;generalize X/2^(J+1)/y=Q at *
 have hr':r<y:=by rw[hr];exact yI _ hy
 have hb':b<2:=by rw[hb];exact yI _ (by omega)
 clear hr hb;have e3:X/2^J=y*(2*Q)+(r*2+b):=by
  rw[e1,<- e2,xY,ym];omega
 generalize X/2^J=A at *
 subst e3;split
 ·rename_i h;have e4:y*(2*Q)+(r*2+b)=y*(2*Q+1)+(r*2+b-y):=by rw[xY,yD];omega
  rw[e4,Nat.mul_add_mod,wa hy,yB (by omega),yn (by omega),yE];exact⟨rfl,rfl⟩
 ·rename_i h;rw[Nat.mul_add_mod,wa hy,yB (by omega),yn (by omega)];exact⟨rfl,rfl⟩
theorem and_one (x:Nat):x &&& 1=x%2:=Nat.and_two_pow_sub_one_eq_mod x 1
set_option maxHeartbeats 4000000 in
theorem ref1_DivMod (xs ys:List Nat) (hx:okL xs) (hy:okL ys) (hl:xs.length<=16777216) (hm:ys.length<=16777216) :
  Go.Ev.Fn CX 132 [natV xs,natV ys] (.tup [natV (lim (wth xs/wth ys)),natV (lim (remN (wth xs) (wth ys))),.bool (decide (wth ys≠0))]):=by
 refine fni Tryz.f132 ?_;unfold Tryz.f132;have hTo:=ref1_To xs hx;have hTo2:=ref1_To ys hy;have hsm:=ref1_small xs (wth ys) hx (by omega);generalize hX:wth xs=X at *
 generalize hY:wth ys=Y at *
 repeat (first|simp only[go_sem]|simp (disch:=first|exact omg|fail) only[AX]|refine wki ?_|refine vpx [] ?_)
 refine vf_of (ref1_Trim ys hy) ?_;repeat (first|simp only[go_sem]|simp (disch:=first|exact omg|fail) only[AX]|refine wki ?_|refine vpx [] ?_)
 rw[hY];rcases xo Y with h0|h0
 ·subst h0;rw[lim_zero,Nat.div_zero,lim_zero,show remN X 0=0 by rfl,lim_zero];repeat (first|simp only[go_sem]|simp (disch:=first|exact omg|fail) only[AX]|refine wki ?_|refine vpx [] ?_)
  rfl
 have e0:remN X Y=X%Y:=if_neg (by omega);have e1:decide (Y≠0)=true:=decide_eq_true (by omega);have hn0:0<(lim Y).length:=wg.2 (fun h=>by have:=lim_eq_nil.1 h;omega);rw[e0,e1];repeat (first|simp only[go_sem]|simp (disch:=first|exact omg|fail) only[AX]|refine wki ?_|refine vpx [] ?_|refine vfa ?_)
 by_cases hX2:X<18446744073709551616/\Y<18446744073709551616
 ·obtain⟨hX3,hY3⟩:=hX2;have hq:X/Y<18446744073709551616:=yM (xv _ _) hX3;have hr:X%Y<18446744073709551616:=Nat.lt_trans (yI _ h0) hY3;have hY4:Y≠0:=by omega
  rw[if_pos hX3,if_pos hY3,decide_eq_true hX3,decide_eq_true hY3];have oQ:=ref1_Of (X/Y) hq;have oR:=ref1_Of (X%Y) hr;have hqm:X/Y%18446744073709551616=X/Y:=yB hq;repeat (first|simp only[go_sem,hqm]|simp (disch:=first|exact omg|fail) only[AX,hqm]|refine wki ?_|refine vpx [] ?_|refine vfa ?_)
 ·have hdec:(decide (X<18446744073709551616)&&decide (Y<18446744073709551616))=false:=by
   rw[<- Bool.decide_and];exact decide_eq_false hX2
  by_cases hY1:Y<4294967296
  ·have hY3:Y<18446744073709551616:=by omega
   have hX3 : ¬X<18446744073709551616:=fun h=>hX2 ⟨h,hY3⟩
   have hr:X%Y<18446744073709551616:=Nat.lt_trans (yI _ h0) hY3;have hsm:=hsm h0 hY1;have oR:=ref1_Of (X%Y) hr;rw[if_pos hY3,if_neg hX3,decide_eq_true hY3,decide_eq_false hX3];repeat (first|simp only[go_sem]|simp (disch:=first|exact omg|fail) only[AX]|refine wki ?_|refine vpx [] ?_|refine vfa ?_)
  ·clear hsm hTo hTo2;have hcases:(¬X<18446744073709551616/\Y<18446744073709551616)\/(X<18446744073709551616 /\ ¬Y<18446744073709551616)\/(¬X<18446744073709551616 /\ ¬Y<18446744073709551616):=by omega
   rcases hcases with⟨hX3,hY3⟩|⟨hX3,hY3⟩|⟨hX3,hY3⟩
   all_goals
    simp only[hX3,hY3,if_true,if_false,decide_true,decide_false];repeat (first|simp only[go_sem]|simp (disch:=first|exact omg|fail) only[AX]|refine wki ?_)
    refine vp_loop_inv (fun s=>s.tmp 0 = .sv (natV xs)/\s.tmp 1 = .sv (natV ys)/\s.tmp 13 = .ref 58 0 1 0 xs.length /\ ∃q:List Nat,∃I R:Nat,s.obj 58 0=some (q.map limb)/\s.tmp 15 = .sv (.int .i64 ((I:Int)-1))/\((s.tmp 14 = .nil/\R=0)\/s.tmp 14 = .sv (natV (lim R))) /\
      q.length=xs.length/\okL q/\I<=32*xs.length/\R=X/2^I%Y/\wth q=X/2^I/Y*2^I)
     (fun s=>match s.tmp 15 with | .sv (.int _ i)=>(i+1).toNat|_=>0) ?_ ?_
    ·have hXlt:=wth_lt hx;rw[hX]at hXlt;have h32:(4294967296:Nat)^xs.length=2^(32*xs.length):=by rw[zF]
     rw[h32]at hXlt;refine⟨rfl,rfl,rfl,List.replicate xs.length 0,32*xs.length,0,rfl,rfl,.inl ⟨rfl,rfl⟩,yR ..,okL_replicate _,xQ _,?_,?_⟩
     ·rw[yn hXlt,Nat.zero_mod]
     ·rw[yn hXlt,Nat.zero_div,zY,wth_replicate]
    rintro s ⟨i0,i1,i13,q,I,R,iO,i15,hR,hql,hqk,hI,hRv,hqv⟩
    rcases xo I with rfl|hI0
    ·rw[yr,zK]at hRv hqv;rw[yD]at hqv;subst hRv;rcases hR with⟨i14,hR0⟩|i14
     ·repeat (first|simp only[go_sem,i0,i1,i13,iO,i15,i14]|simp (disch:=first|exact omg|fail) only[AX,i0,i1,i13,iO,i15,i14]|refine wki ?_|refine vpx [] ?_)
      refine vf_of (fn_natV (ref1_Trim q hqk) hql) ?_;repeat (first|simp only[go_sem,i0,i1,i13,iO,i15,i14]|simp (disch:=first|exact omg|fail) only[AX,i0,i1,i13,iO,i15,i14]|refine wki ?_|refine vpx [] ?_)
      refine vf_of (ref1_Trim [] okL_nil (by simp)) ?_;repeat (first|simp only[go_sem,i0,i1,i13,iO,i15,i14]|simp (disch:=first|exact omg|fail) only[AX,i0,i1,i13,iO,i15,i14]|refine wki ?_|refine vpx [] ?_)
      rw[hqv,hR0,lim_zero,wth_nil,lim_zero];exact⟨rfl,rfl⟩
     ·have hRl:(lim (X%Y)).length<=ys.length:=by
       have h1:(lim Y).length<=ys.length:=by rw[<- hY];exact lim_length_le hy
       have h2:=yI X h0;have h3:=trimL_length (okL_lim (X%Y)) (okL_lim Y) (trimL_lim _) (by rw[wth_lim,wth_lim];omega);omega
      repeat (first|simp only[go_sem,i0,i1,i13,iO,i15,i14]|simp (disch:=first|exact omg|fail) only[AX,i0,i1,i13,iO,i15,i14]|refine wki ?_|refine vpx [] ?_)
      refine vf_of (fn_natV (ref1_Trim q hqk) hql) ?_;repeat (first|simp only[go_sem,i0,i1,i13,iO,i15,i14]|simp (disch:=first|exact omg|fail) only[AX,i0,i1,i13,iO,i15,i14]|refine wki ?_|refine vpx [] ?_)
      refine vf_of (ref1_Trim (lim (X%Y)) (okL_lim _)) ?_;repeat (first|simp only[go_sem,i0,i1,i13,iO,i15,i14]|simp (disch:=first|exact omg|fail) only[AX,i0,i1,i13,iO,i15,i14]|refine wki ?_|refine vpx [] ?_)
      rw[hqv,wth_lim];exact⟨rfl,rfl⟩
    ·obtain⟨J,rfl⟩ : ∃J,I=J+1:=⟨I-1,by omega⟩
     have h5:((J+1:Nat):Int)-1=(J:Int):=by omega
     rw[h5]at i15;have hRY:R<Y:=by rw[hRv];exact yI _ h0
     have hlY:(lim Y).length<=ys.length:=by rw[<- hY];exact lim_length_le hy
     have hRl:(lim R).length<=(lim Y).length:=trimL_length (okL_lim _) (okL_lim _) (trimL_lim _) (by rw[wth_lim,wth_lim];omega);have hS:=ref1_shift_up (lim R) 1 (okL_lim R) (by omega) 1 rfl;rw[wth_lim,Nat.pow_one]at hS;have hlen : ∀z,z<=R*2+1->(lim z).length<=ys.length+1:=by
      intro z hz;have h1:=trimL_length (xs:=lim z) (ys:=0::lim Y) (okL_lim _) (okL_cons.2 ⟨by omega,okL_lim _⟩) (trimL_lim _) (by rw[wth_cons,wth_lim,wth_lim];omega);rw[yS]at h1;omega
     have hw:J/32<xs.length:=by omega
     have hbg:=bit_get xs hx J hw;have hbs:=bit_set q hqk J (X/2^(J+1)/Y) (by omega) hqv;rw[hX]at hbg;obtain⟨hst1,hst2⟩:=bit_step h0 hRv rfl;have hb2:X/2^J%2<2:=yI _ (by omega);have hx1:=getD_lt hx (J/32);have hq1:=getD_lt hqk (J/32);have hj:J%32<32:=yI _ (by omega);generalize hB:X/2^J%2=B at *
     generalize hxw:xs.getD (J/32) 0=x at *
     have hxj:x/2^(J%32)<4294967296:=yM (xv _ _) hx1;have hand:bitsSV .and .u32 ((x/2^(J%32):Nat):Int) 1=some (.int .u32 (B:Int)):=by
      have:=b_and32 (a:=x/2^(J%32)) (b:=1) hxj;rw[and_one,hbg]at this;exact this
     have hmin:min (J%32) 32=J%32:=yx (by omega);clear hbg hRv hI0;rcases hR with⟨i14,hR0⟩|i14
     all_goals (first|(have hR1:lim R=[]:=by rw[hR0,lim_zero]);rw[hR1]at hS|skip)
     all_goals
      repeat (first|simp only[go_sem,i0,i1,i13,iO,i15,i14,tdiv32,tmod32,hxw,hmin,hand]|simp (disch:=first|exact omg|fail) only[AX,i0,i1,i13,iO,i15,i14,tdiv32,tmod32,hxw,hmin,hand]|refine wki ?_|refine vpx [] ?_|refine vfa ?_)
      refine vc_cut (Mid:=fun s'=>s'.tmp 0 = .sv (natV xs)/\s'.tmp 1 = .sv (natV ys)/\s'.tmp 13 = .ref 58 0 1 0 xs.length/\s'.obj 58 0=some (q.map limb)/\s'.tmp 15 = .sv (.int .i64 (J:Int))/\s'.tmp 14 = .sv (natV (lim (R*2+B)))) ?_ ?_
      ·have hB01:B=0\/B=1:=by omega
       rcases hB01 with hB0|hB1
       ·have hbq:((B:Int)==1)=false:=beqF;repeat (first|simp only[go_sem,i0,i1,i13,iO,i15,i14,hbq]|simp (disch:=first|exact omg|fail) only[AX,i0,i1,i13,iO,i15,i14,hbq]|refine wki ?_|refine vpx [] ?_)
        rw[hB0,yE]
       ·have hbq:((B:Int)==1)=true:=beqT;have hA:=ref1_Add (lim (R*2)) [1] (okL_lim _) (by simp[okL]) (by have:=hlen (R*2) (by omega);omega) (by simp);rw[wth_lim,show wth [1]=B by rw[hB1];rfl]at hA;repeat (first|simp only[go_sem,i0,i1,i13,iO,i15,i14,hbq]|simp (disch:=first|exact omg|fail) only[AX,i0,i1,i13,iO,i15,i14,hbq]|refine wki ?_|refine vpx [] ?_|refine vfa ?_)
      rintro s' ⟨j0,j1,j13,jO,j15,j14⟩
      have hrl:=hlen (R*2+B) (by omega);have hC:=ref1_Cmp (lim (R*2+B)) ys (okL_lim _) hy;have hSb:=ref1_Sub (lim (R*2+B)) ys (okL_lim _) hy;rw[wth_lim,hY]at hC hSb;clear hlen hrl hS hand;by_cases hYR:Y<=R*2+B
      ·have hc:decide (cmpN (R*2+B) Y>=0)=true:=by
        have:=cmpN_ge hYR;rw[decide_eq_false_iff_not]at this;exact decide_eq_true (by omega)
       rw[if_pos hYR]at hst1 hst2;obtain⟨hb1,hb3,hb4⟩:=hbs;have hp2:2^(J%32)<4294967296:=show 2^(J%32)<2^32 from zS (by omega) hj
       have hsh:IntKind.u32.wrap (1*((2^(J%32):Nat):Int))=((2^(J%32):Nat):Int):=by rw[Int.one_mul,u32_nat,yB hp2]
       first|(exfalso;omega)|skip
       all_goals
        repeat (first|simp only[go_sem,j0,j1,j13,jO,j15,j14,hc,tdiv32,tmod32,hmin,hsh,hb1]|simp (disch:=first|exact omg|fail) only[AX,j0,j1,j13,jO,j15,j14,hc,tdiv32,tmod32,hmin,hsh,hb1]|refine wki ?_|refine vpx [] ?_|refine vfa ?_)
        refine⟨⟨q.set (J/32) (q.getD (J/32) 0+2^(J%32)),J,R*2+B-Y,rfl,rfl,.inr rfl,by rw[yN];exact hql,okL_set hqk _ _ hb3,by omega,hst1.symm,?_⟩,by omega⟩;rw[hb4,hst2]
      ·have hc:decide (cmpN (R*2+B) Y>=0)=false:=by
        rw[cmpN_lt];rfl
       rw[if_neg hYR]at hst1 hst2;repeat (first|simp only[go_sem,j0,j1,j13,jO,j15,j14,hc]|simp (disch:=first|exact omg|fail) only[AX,j0,j1,j13,jO,j15,j14,hc]|refine wki ?_|refine vpx [] ?_|refine vfa ?_)
       refine⟨⟨q,J,R*2+B,rfl,rfl,.inr rfl,hql,hqk,by omega,hst1.symm,?_⟩,by omega⟩;rw[hqv,hst2];show X/2^(J+1)/Y*2^(J+1)=2*(X/2^(J+1)/Y)*2^J;generalize X/2^(J+1)/Y=Qv;rw[Nat.pow_succ',<- xP,xV Qv]
theorem ref1_Gcd (xs ys:List Nat) (hx:okL xs) (hy:okL ys) (hl:xs.length<=16777216) (hm:ys.length<=16777216) :
  Go.Ev.Fn CX 131 [natV xs,natV ys] (natV (lim (Nat.gcd (wth xs) (wth ys)))):=by
 refine fni Tryz.f131 ?_;unfold Tryz.f131;have lx:=lim_length_le hx;have ly:=lim_length_le hy;repeat (first|simp only[go_sem]|simp (disch:=first|exact omg|fail) only[AX]|refine wki ?_|refine vpx [] ?_)
 refine vf_of (ref1_Trim xs hx) ?_;repeat (first|simp only[go_sem]|simp (disch:=first|exact omg|fail) only[AX]|refine wki ?_|refine vpx [] ?_)
 refine vf_of (ref1_Trim ys hy) ?_;repeat (first|simp only[go_sem]|simp (disch:=first|exact omg|fail) only[AX]|refine wki ?_|refine vpx [] ?_)
 refine vp_loop_inv (fun s => ∃a b:Nat,s.tmp 5 = .sv (natV (lim a))/\s.tmp 6 = .sv (natV (lim b))/\(lim a).length<=16777216/\(lim b).length<=16777216/\Nat.gcd a b=Nat.gcd (wth xs) (wth ys))
  (fun s=>match s.tmp 6 with | .sv (.sl _ cs)=>(match decL cs with|some l=>wth l|none=>0)|_=>0) ⟨_,_,rfl,rfl,by omega,by omega,rfl⟩ ?_
 rintro s ⟨a,b,i0,i1,la,lb,hg⟩
 by_cases hb:b=0
 ·subst hb;rw[lim_zero]at i1;rw[<- hg,Nat.gcd_zero_right];repeat (first|simp only[go_sem,i0,i1]|simp (disch:=first|exact omg|fail) only[AX,i0,i1]|refine wki ?_|refine vpx [] ?_)
 ·have h1:0<(lim b).length:=wg.2 (fun h=>hb (lim_eq_nil.1 h));repeat (first|simp only[go_sem,i0,i1]|simp (disch:=first|exact omg|fail) only[AX,i0,i1]|refine wki ?_|refine vpx [] ?_)
  refine vf_of (ref1_DivMod (lim a) (lim b) (okL_lim a) (okL_lim b) la lb) ?_;repeat (first|simp only[go_sem,i0,i1]|simp (disch:=first|exact omg|fail) only[AX,i0,i1]|refine wki ?_|refine vpx [] ?_)
  have e1:remN (wth (lim a)) (wth (lim b))=a%b:=by rw[wth_lim,wth_lim];exact if_neg hb
  rw[e1,decL_map (okL_lim _),decL_map (okL_lim _)];dsimp only;rw[wth_lim,wth_lim];have h2:a%b<b:=yI _ (by omega);have h3:=trimL_length (okL_lim (a%b)) (okL_lim b) (trimL_lim _) (by rw[wth_lim,wth_lim];omega);refine⟨⟨b,a%b,rfl,rfl,lb,by omega,?_⟩,h2⟩;rw[<- hg,Nat.gcd_comm b,<- Nat.gcd_rec,Nat.gcd_comm]
end Go.Proofs.YtfknkoeagjonbaaGreat
namespace Go.Proofs.YtfknkoeagjonbaaGreat
open Go.Ev
attribute [go_sem] List.head?_cons List.head?_nil
theorem nat_GcdL {N D:Nat} (hl:(lim N).length<=68719476736:=by omega) (hm:(lim D).length<=68719476736:=by omega):Go.Ev.Fn CX 139 [natV (lim N),natV (lim D)] (natV (lim (N.gcd D))):=by
 have h:=nat_Gcd (lim N) (lim D) (okL_lim _) (okL_lim _) hl hm;rwa [wth_lim,wth_lim]at h
theorem nat_DivL {N D:Nat} (hD:D≠0:=by omega) (hl:(lim N).length<=68719476736:=by omega) (hm:(lim D).length<=68719476736:=by omega):Go.Ev.Fn CX 140 [natV (lim N),natV (lim D)] (.tup [natV (lim (N/D)),natV (lim (N%D)),.bool true]):=by
 have h:=nat_DivMod (lim N) (lim D) (okL_lim _) (okL_lim _) hl hm;rwa [wth_lim,wth_lim,show remN N D=N%D from if_neg hD,decide_eq_true hD]at h
theorem nat_MulL {N D:Nat} (hl:(lim N).length<=68719476736:=by omega) (hm:(lim D).length<=68719476736:=by omega):Go.Ev.Fn CX 112 [natV (lim N),natV (lim D)] (natV (lim (N*D))):=by
 have h:=nat_Mul (lim N) (lim D) (okL_lim _) (okL_lim _);rwa [wth_lim,wth_lim]at h
theorem nat_AddL {N D:Nat} (hl:(lim N).length<=68719476736:=by omega) (hm:(lim D).length<=68719476736:=by omega):Go.Ev.Fn CX 113 [natV (lim N),natV (lim D)] (natV (lim (N+D))):=by
 have h:=nat_Add (lim N) (lim D) (okL_lim _) (okL_lim _);rwa [wth_lim,wth_lim]at h
theorem nat_SubL {N D:Nat} (hl:(lim N).length<=68719476736:=by omega) (hm:(lim D).length<=68719476736:=by omega):Go.Ev.Fn CX 114 [natV (lim N),natV (lim D)] (.tup [natV (lim (N-D)),.bool (decide (D<=N))]):=by
 have h:=nat_Sub (lim N) (lim D) (okL_lim _) (okL_lim _);rw[wth_lim,wth_lim]at h;by_cases hlt:N<D
 ·rw[if_pos hlt]at h;rwa [show N-D=0 by omega,lim_zero,decide_eq_false (by omega)]
 ·rw[if_neg hlt]at h;rwa [decide_eq_true (by omega:D<=N)]
theorem ref1_GcdL {N D:Nat} (hl:(lim N).length<=16777216:=by omega) (hm:(lim D).length<=16777216:=by omega):Go.Ev.Fn CX 131 [natV (lim N),natV (lim D)] (natV (lim (N.gcd D))):=by
 have h:=ref1_Gcd (lim N) (lim D) (okL_lim _) (okL_lim _) hl hm;rwa [wth_lim,wth_lim]at h
theorem ref1_DivL {N D:Nat} (hD:D≠0) (hl:(lim N).length<=16777216:=by omega) (hm:(lim D).length<=16777216:=by omega):Go.Ev.Fn CX 132 [natV (lim N),natV (lim D)] (.tup [natV (lim (N/D)),natV (lim (N%D)),.bool true]):=by
 have h:=ref1_DivMod (lim N) (lim D) (okL_lim _) (okL_lim _) hl hm;rwa [wth_lim,wth_lim,show remN N D=N%D from if_neg hD,decide_eq_true hD]at h
theorem ref1_MulL {N D:Nat} (hl:(lim N).length<=16777216:=by omega) (hm:(lim D).length<=16777216:=by omega):Go.Ev.Fn CX 74 [natV (lim N),natV (lim D)] (natV (lim (N*D))):=by
 have h:=ref1_Mul (lim N) (lim D) (okL_lim _) (okL_lim _);rwa [wth_lim,wth_lim]at h
theorem ref1_AddL {N D:Nat} (hl:(lim N).length<=16777216:=by omega) (hm:(lim D).length<=16777216:=by omega):Go.Ev.Fn CX 67 [natV (lim N),natV (lim D)] (natV (lim (N+D))):=by
 have h:=ref1_Add (lim N) (lim D) (okL_lim _) (okL_lim _);rwa [wth_lim,wth_lim]at h
theorem ref1_SubL {N D:Nat} (hl:(lim N).length<=16777216:=by omega) (hm:(lim D).length<=16777216:=by omega):Go.Ev.Fn CX 75 [natV (lim N),natV (lim D)] (.tup [natV (lim (N-D)),.bool (decide (D<=N))]):=by
 have h:=ref1_Sub (lim N) (lim D) (okL_lim _) (okL_lim _);rwa [wth_lim,wth_lim]at h
theorem ref1_CmpL {N D:Nat} (hl:(lim N).length<=16777216:=by omega) (hm:(lim D).length<=16777216:=by omega):Go.Ev.Fn CX 66 [natV (lim N),natV (lim D)] (.int .i64 (cmpN N D)):=by
 have h:=ref1_Cmp (lim N) (lim D) (okL_lim _) (okL_lim _);rwa [wth_lim,wth_lim]at h
theorem nat_CmpL {N D:Nat} (hl:(lim N).length<=68719476736:=by omega) (hm:(lim D).length<=68719476736:=by omega):Go.Ev.Fn CX 125 [natV (lim N),natV (lim D)] (.int .i64 (cmpN N D)):=by
 have h:=nat_Cmp (lim N) (lim D) (okL_lim _) (okL_lim _);rwa [wth_lim,wth_lim]at h
theorem lim_pos {N:Nat} (h:N≠0:=by omega):0<(lim N).length:=wg.2 (fun e=>h (lim_eq_nil.1 e))
theorem rat_Of (s:Bool) (n d:List Nat) (hn:okL n) (hd:okL d) (hl:n.length<=68719476736:=by omega) (hm:d.length<=68719476736:=by omega) :
  Go.Ev.Fn CX 87 [.bool s,natV n,natV d] (rv (mkRat (sgn s (wth n)) (wth d))):=by
 refine fni Tryz.f87 ?_;unfold Tryz.f87;have lx:=lim_length_le hn;have ly:=lim_length_le hd;repeat (first|simp only[go_sem]|simp (disch:=first|exact omg|fail) only[AX]|refine wki ?_|refine vpx [] ?_)
 refine vf_of (nat_Trim n hn) ?_;repeat (first|simp only[go_sem]|simp (disch:=first|exact omg|fail) only[AX]|refine wki ?_|refine vpx [] ?_)
 refine vf_of (nat_Trim d hd) ?_;repeat (first|simp only[go_sem]|simp (disch:=first|exact omg|fail) only[AX]|refine wki ?_|refine vpx [] ?_)
 generalize wth n=N at *
 generalize wth d=D at *
 have oN:=okL_lim N;have oD:=okL_lim D;by_cases h:N=0\/D=0
 ·rw[mk_zero s h,rv_zero];have o1:=nat_Of 1;rw[lim_one]at o1;by_cases hN:N=0
  ·have h0:(lim N).length=0:=by rw[hN,lim_zero];rfl
   repeat (first|simp only[go_sem]|simp (disch:=first|exact omg|fail) only[AX]|refine wki ?_|refine vpx [] ?_|refine vfa ?_)
   rfl
  ·have h0:(lim D).length=0:=by rw[h.resolve_left hN,lim_zero];rfl
   have h1:=lim_pos hN;repeat (first|simp only[go_sem]|simp (disch:=first|exact omg|fail) only[AX]|refine wki ?_|refine vpx [] ?_|refine vfa ?_)
   rfl
 ·have hN:N≠0:=fun e=>h (.inl e)
  have hD:D≠0:=fun e=>h (.inr e)
  rw[mk_parts s hN hD];have h1:=lim_pos hN;have h2:=lim_pos hD;have hg:N.gcd D≠0:=Nat.ne_of_gt (Nat.gcd_pos_of_pos_left _ (by omega));have h3:=lim_len_mono (Nat.gcd_le_left D (by omega:0<N));repeat (first|simp only[go_sem]|simp (disch:=first|exact omg|fail) only[AX]|refine wki ?_|refine vpx [] ?_)
  refine vf_of (nat_GcdL) ?_;repeat (first|simp only[go_sem]|simp (disch:=first|exact omg|fail) only[AX]|refine wki ?_|refine vpx [] ?_)
  refine vf_of (nat_DivL hg) ?_;repeat (first|simp only[go_sem]|simp (disch:=first|exact omg|fail) only[AX]|refine wki ?_|refine vpx [] ?_)
  refine vf_of (nat_DivL hg) ?_;repeat (first|simp only[go_sem]|simp (disch:=first|exact omg|fail) only[AX]|refine wki ?_|refine vpx [] ?_)
theorem rat_Norm {v:SV} {q:Rat} {L:Nat} (h:RatA v q L) (hL:L<=68719476736:=by omega):Go.Ev.Fn CX 83 [v] (rv q):=by
 obtain⟨s,n,d,rfl,hn,hd,hl,hm,rfl⟩:=h;refine fni Tryz.f83 ?_;unfold Tryz.f83;repeat (first|simp only[go_sem]|simp (disch:=first|exact omg|fail) only[AX]|refine wki ?_|refine vpx [] ?_)
 refine vf_of (rat_Of s n d hn hd) ?_;repeat (first|simp only[go_sem]|simp (disch:=first|exact omg|fail) only[AX]|refine wki ?_|refine vpx [] ?_)
theorem int_u64 {n:Int} (h : -9223372036854775808<=n/\n<9223372036854775808):IntKind.u64.wrap n=((if n<0 then 18446744073709551616-n.natAbs else n.natAbs:Nat):Int):=by
 rw[IntKind.wrap_u64];split<;>omega
theorem rat_Int (n:Int) (h : -9223372036854775808<=n/\n<9223372036854775808:=by omega):Go.Ev.Fn CX 29 [.int .i64 n] (rv (n:Rat)):=by
 refine fni Tryz.f29 ?_;unfold Tryz.f29;have o1:=nat_Of 1;have oN:=nat_Of n.natAbs;have e1:=int_u64 h;show WP CX _ _ (RQ _ _ (ratV (decide (n<0)) (lim n.natAbs) (lim 1)));by_cases h0:n<0
 ·rw[if_pos h0]at e1;have e2:IntKind.u64.wrap (0-((18446744073709551616-n.natAbs:Nat):Int))=(n.natAbs:Int):=by rw[IntKind.wrap_u64];omega
  repeat (first|simp only[go_sem,e1,e2]|simp (disch:=first|exact omg|fail) only[AX,e1,e2]|refine wki ?_|refine vpx [] ?_|refine vfa ?_)
 ·rw[if_neg h0]at e1;repeat (first|simp only[go_sem,e1]|simp (disch:=first|exact omg|fail) only[AX,e1]|refine wki ?_|refine vpx [] ?_|refine vfa ?_)
end Go.Proofs.YtfknkoeagjonbaaGreat
namespace Go.Proofs.YtfknkoeagjonbaaGreat
open Go.Ev
theorem rat_OfL {s:Bool} {n d:Nat} (hl:(lim n).length<=68719476736:=by omega) (hm:(lim d).length<=68719476736:=by omega) :
  Go.Ev.Fn CX 87 [.bool s,natV (lim n),natV (lim d)] (rv (mkRat (sgn s n) d)):=by
 have h:=rat_Of s (lim n) (lim d) (okL_lim _) (okL_lim _) hl hm;rwa [wth_lim,wth_lim]at h
theorem mul_parts (q r:Rat):mkRat (sgn (!(decide (q.num<0)==decide (r.num<0))) (q.num.natAbs*r.num.natAbs)) (q.den*r.den)=q*r:=by
 have h:=sgn_mul q.num r.num;rw[show (!(decide (q.num<0)==decide (r.num<0)))=(decide (q.num<0) != decide (r.num<0)) from rfl,h,<- Rat.mkRat_mul_mkRat,wB,wB]
theorem rat_Mul {v w:SV} {q r:Rat} {L M:Nat} (hv:RatA v q L) (hw:RatA w r M) (hL:1<=L:=by omega) (hM:1<=M:=by omega) (h:L+M<=268435456:=by omega):Go.Ev.Fn CX 81 [v,w] (rv (q*r)):=by
 have hnv:=rat_Norm hv;have hnw:=rat_Norm hw;obtain⟨z1,z2⟩:=szR_of hv hL;obtain⟨y1,y2⟩:=szR_of hw hM;have g1:=lim_len_mul (a:=q.num.natAbs) (b:=r.num.natAbs);have g2:=lim_len_mul (a:=q.den) (b:=r.den);have hOf:=rat_OfL (s := !(decide (q.num<0)==decide (r.num<0))) (n:=q.num.natAbs*r.num.natAbs) (d:=q.den*r.den);rw[mul_parts]at hOf;obtain⟨s,n,d,rfl,-⟩:=hv;obtain⟨s',n',d',rfl,-⟩:=hw;refine fni Tryz.f81 ?_;unfold Tryz.f81;repeat (first|simp only[go_sem]|simp (disch:=first|exact omg|fail) only[AX]|refine wki ?_|refine vpd 1 [] ?_|refine vpd 2 [15,17,20,22,18,23] ?_|refine vfa ?_)
 refine vf_of (nat_MulL) ?_;repeat (first|simp only[go_sem]|simp (disch:=first|exact omg|fail) only[AX]|refine wki ?_|refine vpd 1 [] ?_|refine vpd 2 [15,17,20,22,18,23] ?_)
 refine vf_of (nat_MulL) ?_;repeat (first|simp only[go_sem]|simp (disch:=first|exact omg|fail) only[AX]|refine wki ?_|refine vpd 1 [] ?_|refine vpd 2 [15,17,20,22,18,23] ?_)
 refine vfa ?_;repeat (first|simp only[go_sem]|simp (disch:=first|exact omg|fail) only[AX]|refine wki ?_|refine vpd 1 [] ?_|refine vpd 2 [15,17,20,22,18,23] ?_)
theorem sgn_mul_nat (s:Bool) (a b:Nat):sgn s a*(b:Int)=sgn s (a*b):=by
 unfold sgn;split
 ·rw[wX,yF]
 ·rw[yF]
theorem add_parts (q r:Rat):q+r=mkRat (sgn (decide (q.num<0)) (q.num.natAbs*r.den)+sgn (decide (r.num<0)) (r.num.natAbs*q.den)) (q.den*r.den):=by
 conv=>lhs;rw[<- wB q,<- wB r,Rat.mkRat_add_mkRat _ _ q.den_nz r.den_nz]
 congr 1;rw[<- sgn_mul_nat,<- sgn_mul_nat,sgn_self,sgn_self]
theorem add_same (q r:Rat) (h:decide (q.num<0)=decide (r.num<0)):mkRat (sgn (decide (q.num<0)) (q.num.natAbs*r.den+r.num.natAbs*q.den)) (q.den*r.den)=q+r:=by
 rw[add_parts,<- h];congr 1;unfold sgn;split<;>omega
theorem add_ge (q r:Rat) (h : ¬decide (q.num<0)=decide (r.num<0)) (h2:r.num.natAbs*q.den<=q.num.natAbs*r.den):mkRat (sgn (decide (q.num<0)) (q.num.natAbs*r.den-r.num.natAbs*q.den)) (q.den*r.den)=q+r:=by
 rw[add_parts];congr 1;have e:decide (r.num<0) = !decide (q.num<0):=by
  revert h
  cases decide (q.num<0)<;>cases decide (r.num<0)<;>simp
 rw[e];generalize q.num.natAbs*r.den=X at *
 generalize r.num.natAbs*q.den=Y at *
 unfold sgn;cases decide (q.num<0)
 ·simp;omega
 ·simp;omega
theorem add_lt (q r:Rat) (h : ¬decide (q.num<0)=decide (r.num<0)) (h2:q.num.natAbs*r.den<r.num.natAbs*q.den:=by omega):mkRat (sgn (decide (r.num<0)) (r.num.natAbs*q.den-q.num.natAbs*r.den)) (q.den*r.den)=q+r:=by
 have h3:=add_ge r q (fun e=>h e.symm) (zf h2);rw[xV r.den,Rat.add_comm r q]at h3;exact h3
theorem beq_bool (a b:Bool):(a==b)=decide (a=b):=by cases a<;>cases b<;>rfl
theorem lim_len_add2 {a b L:Nat} (ha:(lim a).length<=L:=by omega) (hb:(lim b).length<=L:=by omega):(lim (a+b)).length<=L+1:=lim_len_add ha hb
theorem rat_Add {v w:SV} {q r:Rat} {L M:Nat} (hv:RatA v q L) (hw:RatA w r M) (hL:1<=L:=by omega) (hM:1<=M:=by omega) (h:L+M<=268435456:=by omega):Go.Ev.Fn CX 54 [v,w] (rv (q+r)):=by
 have hnv:=rat_Norm hv;have hnw:=rat_Norm hw;obtain⟨z1,z2⟩:=szR_of hv hL;obtain⟨y1,y2⟩:=szR_of hw hM;have g1:=lim_len_mul (a:=q.num.natAbs) (b:=r.den);have g2:=lim_len_mul (a:=r.num.natAbs) (b:=q.den);have g3:=lim_len_mul (a:=q.den) (b:=r.den);have g4:=lim_len_add2 (a:=q.num.natAbs*r.den) (b:=r.num.natAbs*q.den) (L:=L+M);have g5:=lim_len_mono (zt (q.num.natAbs*r.den) (r.num.natAbs*q.den));have g6:=lim_len_mono (zt (r.num.natAbs*q.den) (q.num.natAbs*r.den));obtain⟨s,n,d,rfl,-⟩:=hv;obtain⟨s',n',d',rfl,-⟩:=hw;have hbb:=beq_bool (decide (q.num<0)) (decide (r.num<0))
 refine fni Tryz.f54 ?_;unfold Tryz.f54;repeat (first|simp only[go_sem]|simp (disch:=first|exact omg|fail) only[AX]|refine wki ?_|refine vpd 1 [] ?_|refine vpd 2 [17,19,22,24,27,29] ?_|refine vpd 4 [5,6,40,7] ?_|refine vfa ?_)
 refine vf_of (nat_MulL) ?_;repeat (first|simp only[go_sem]|simp (disch:=first|exact omg|fail) only[AX]|refine wki ?_|refine vpd 1 [] ?_|refine vpd 2 [17,19,22,24,27,29] ?_|refine vpd 4 [5,6,40,7] ?_)
 refine vf_of (nat_MulL) ?_;repeat (first|simp only[go_sem]|simp (disch:=first|exact omg|fail) only[AX]|refine wki ?_|refine vpd 1 [] ?_|refine vpd 2 [17,19,22,24,27,29] ?_|refine vpd 4 [5,6,40,7] ?_)
 refine vf_of (nat_MulL) ?_;repeat (first|simp only[go_sem,hbb]|simp (disch:=first|exact omg|fail) only[AX,hbb]|refine wki ?_|refine vpd 1 [] ?_|refine vpd 2 [17,19,22,24,27,29] ?_|refine vpd 4 [5,6,40,7] ?_)
 by_cases hs:decide (q.num<0)=decide (r.num<0)
 ·have hOf:=rat_OfL (s:=decide (q.num<0)) (n:=q.num.natAbs*r.den+r.num.natAbs*q.den) (d:=q.den*r.den);rw[add_same q r hs]at hOf;rw[decide_eq_true hs];repeat (first|simp only[go_sem]|simp (disch:=first|exact omg|fail) only[AX]|refine wki ?_|refine vpd 1 [] ?_|refine vpd 2 [17,19,22,24,27,29] ?_|refine vpd 4 [5,6,40,7] ?_)
  refine vf_of (nat_AddL) ?_;repeat (first|simp only[go_sem]|simp (disch:=first|exact omg|fail) only[AX]|refine wki ?_|refine vpd 1 [] ?_|refine vpd 2 [17,19,22,24,27,29] ?_|refine vpd 4 [5,6,40,7] ?_)
  refine vfa ?_;repeat (first|simp only[go_sem]|simp (disch:=first|exact omg|fail) only[AX]|refine wki ?_|refine vpd 1 [] ?_|refine vpd 2 [17,19,22,24,27,29] ?_|refine vpd 4 [5,6,40,7] ?_)
 ·rw[decide_eq_false hs];repeat (first|simp only[go_sem]|simp (disch:=first|exact omg|fail) only[AX]|refine wki ?_|refine vpd 1 [] ?_|refine vpd 2 [17,19,22,24,27,29] ?_|refine vpd 4 [5,6,40,7] ?_)
  refine vf_of (nat_SubL) ?_;repeat (first|simp only[go_sem]|simp (disch:=first|exact omg|fail) only[AX]|refine wki ?_|refine vpd 1 [] ?_|refine vpd 2 [17,19,22,24,27,29] ?_|refine vpd 4 [5,6,40,7] ?_)
  by_cases h2:r.num.natAbs*q.den<=q.num.natAbs*r.den
  ·have hOf:=rat_OfL (s:=decide (q.num<0)) (n:=q.num.natAbs*r.den-r.num.natAbs*q.den) (d:=q.den*r.den);rw[add_ge q r hs h2]at hOf;rw[decide_eq_true h2];repeat (first|simp only[go_sem]|simp (disch:=first|exact omg|fail) only[AX]|refine wki ?_|refine vpd 1 [] ?_|refine vpd 2 [17,19,22,24,27,29] ?_|refine vpd 4 [5,6,40,7] ?_|refine vfa ?_)
  ·have hOf:=rat_OfL (s:=decide (r.num<0)) (n:=r.num.natAbs*q.den-q.num.natAbs*r.den) (d:=q.den*r.den);rw[add_lt q r hs]at hOf;rw[decide_eq_false h2];repeat (first|simp only[go_sem]|simp (disch:=first|exact omg|fail) only[AX]|refine wki ?_|refine vpd 1 [] ?_|refine vpd 2 [17,19,22,24,27,29] ?_|refine vpd 4 [5,6,40,7] ?_)
   refine vf_of (nat_SubL) ?_;repeat (first|simp only[go_sem]|simp (disch:=first|exact omg|fail) only[AX]|refine wki ?_|refine vpd 1 [] ?_|refine vpd 2 [17,19,22,24,27,29] ?_|refine vpd 4 [5,6,40,7] ?_)
   refine vfa ?_;repeat (first|simp only[go_sem]|simp (disch:=first|exact omg|fail) only[AX]|refine wki ?_|refine vpd 1 [] ?_|refine vpd 2 [17,19,22,24,27,29] ?_|refine vpd 4 [5,6,40,7] ?_)
theorem neg_parts (q:Rat):rv (-q)=ratV (!decide (q.num<0)&&decide (0<(lim q.num.natAbs).length)) (lim q.num.natAbs) (lim q.den):=by
 show ratV (decide ((-q).num<0)) (lim (-q).num.natAbs) (lim (-q).den)=_;rw[Rat.neg_num,Rat.neg_den,yJ];congr 3;by_cases h:q.num=0
 ·rw[h];rfl
 ·have h1:=lim_pos (N:=q.num.natAbs);rw[decide_eq_true h1,Bool.and_true];by_cases h2:q.num<0
  ·rw[decide_eq_true h2,decide_eq_false (by omega)];rfl
  ·rw[decide_eq_false h2,decide_eq_true (by omega)];rfl
theorem rat_signed (s t:Bool) (n d:List Nat) (hn:n.length<=1099511627776:=by omega):Go.Ev.Fn CX 204 [.bool s,ratV t n d] (ratV (s&&decide (0<n.length)) n d):=by
 refine fni Tryz.f204 ?_;unfold Tryz.f204;cases s
 ·repeat (first|simp only[go_sem]|simp (disch:=first|exact omg|fail) only[AX]|refine wki ?_)
  rfl
 ·by_cases h:0<n.length
  ·rw[decide_eq_true h];repeat (first|simp only[go_sem]|simp (disch:=first|exact omg|fail) only[AX]|refine wki ?_)
  ·rw[decide_eq_false h];repeat (first|simp only[go_sem]|simp (disch:=first|exact omg|fail) only[AX]|refine wki ?_)
theorem rat_Neg {v:SV} {q:Rat} {L:Nat} (hv:RatA v q L) (hL:1<=L:=by omega) (h:L<=268435456:=by omega):Go.Ev.Fn CX 135 [v] (rv (-q)):=by
 have hnv:=rat_Norm hv;obtain⟨z1,z2⟩:=szR_of hv hL;have hs:=rat_signed (!decide (q.num<0)) (decide (q.num<0)) (lim q.num.natAbs) (lim q.den);rw[<- neg_parts]at hs;obtain⟨s,n,d,rfl,-⟩:=hv;refine fni Tryz.f135 ?_;unfold Tryz.f135;repeat (first|simp only[go_sem]|simp (disch:=first|exact omg|fail) only[AX]|refine wki ?_|refine vfa ?_)
theorem szR_neg {q:Rat} {L:Nat} (h:szR q L):szR (-q) L:=by
 unfold szR;rw[Rat.neg_num,Rat.neg_den,yJ];exact h
theorem rat_Sub {v w:SV} {q r:Rat} {L M:Nat} (hv:RatA v q L) (hw:RatA w r M) (hL:1<=L:=by omega) (hM:1<=M:=by omega) (h:L+M<=268435456:=by omega):Go.Ev.Fn CX 79 [v,w] (rv (q-r)):=by
 have hN:=rat_Neg hw hM;have hA:=rat_Add hv (RatA_rv (szR_neg (szR_of hw hM))) hL hM h;rw[<- wm]at hA;obtain⟨s,n,d,rfl,-⟩:=hv;obtain⟨s',n',d',rfl,-⟩:=hw;refine fni Tryz.f79 ?_;unfold Tryz.f79;repeat (first|simp only[go_sem]|simp (disch:=first|exact omg|fail) only[AX]|refine wki ?_|refine vpd 1 [] ?_|refine vfa ?_)
theorem num_zero {q:Rat}:q.num=0↔q=0:=Rat.num_eq_zero
theorem div_parts {q r:Rat} (hr:r≠0):q/r=q*mkRat (sgn (decide (r.num<0)) r.den) r.num.natAbs:=by
 rw[xk];congr 1;rw[Rat.inv_def];have h0:r.num≠0:=fun e=>hr (num_zero.1 e)
 by_cases h:r.num<0
 ·rw[decide_eq_true h];obtain⟨k,hk⟩ : ∃k:Nat,r.num=Int.negSucc k:=⟨r.num.natAbs-1,by omega⟩
  rw[hk,show (Int.negSucc k).natAbs=k+1 from rfl];show Rat.normalize (-(r.den:Int)) (k+1) (Nat.succ_ne_zero k)=mkRat (-(r.den:Int)) (k+1);rw[Rat.normalize_eq_mkRat]
 ·rw[decide_eq_false h];obtain⟨m,hm⟩ : ∃m:Nat,r.num=(m:Int):=⟨r.num.natAbs,by omega⟩
  rw[hm,xJ,Rat.divInt_ofNat];rfl
theorem rat_Div {v w:SV} {q r:Rat} {L M:Nat} (hv:RatA v q L) (hw:RatA w r M) (hL:1<=L:=by omega) (hM:1<=M:=by omega) (h:L+M<=268435456:=by omega):Go.Ev.Fn CX 107 [v,w] (.tup [rv (q/r),.bool (decide (r≠0))]):=by
 have hnw:=rat_Norm hw;obtain⟨y1,y2⟩:=szR_of hw hM;have h0:=rat_Int 0;have hMul:r≠0->_:=fun hr=>rat_Mul (w:=ratV (decide (r.num<0)) (lim r.den) (lim r.num.natAbs)) hv ⟨_,_,_,rfl,okL_lim _,okL_lim _,y2,y1,by rw[wth_lim,wth_lim]⟩ hL hM h
 obtain⟨s,n,d,rfl,-⟩:=hv;obtain⟨s',n',d',rfl,-⟩:=hw;refine fni Tryz.f107 ?_;unfold Tryz.f107;by_cases hr:r=0
 ·have hl:(lim r.num.natAbs).length=0:=by rw[num_zero.2 hr];simp[lim_zero]
  rw[decide_eq_false (fun e=>e hr),hr,xk,Rat.inv_zero,wC];subst hr;repeat (first|simp only[go_sem]|simp (disch:=first|exact omg|fail) only[AX]|refine wki ?_|refine vfa ?_)
  rfl
 ·have hl:=lim_pos (N:=r.num.natAbs) (fun e=>hr (num_zero.1 (by omega)));have hMul:=hMul hr;rw[<- div_parts hr]at hMul;rw[decide_eq_true hr];repeat (first|simp only[go_sem]|simp (disch:=first|exact omg|fail) only[AX]|refine wki ?_|refine vfa ?_)
end Go.Proofs.YtfknkoeagjonbaaGreat
namespace Go.Proofs.YtfknkoeagjonbaaGreat
open Go.Ev
theorem ref2_Norm {v:SV} {q:Rat} {L:Nat} (h:RatA v q L) (hL:L<=16777216:=by omega):Go.Ev.Fn CX 68 [v] (rv q):=by
 obtain⟨s,n,d,rfl,hn,hd,hl,hm,rfl⟩:=h;have lx:=lim_length_le hn;have ly:=lim_length_le hd;have tn:=ref1_Trim n hn;have td:=ref1_Trim d hd;refine fni Tryz.f68 ?_;unfold Tryz.f68;generalize wth n=N at *
 generalize wth d=D at *
 repeat (first|simp only[go_sem]|simp (disch:=first|exact omg|fail) only[AX]|refine wki ?_|refine vpd 1 [7,10] ?_|refine vfa ?_)
 by_cases h:N=0\/D=0
 ·rw[mk_zero s h,rv_zero];by_cases hD:D=0
  ·have h0:(lim D).length=0:=by rw[hD,lim_zero];rfl
   repeat (first|simp only[go_sem]|simp (disch:=first|exact omg|fail) only[AX]|refine wki ?_|refine vpd 1 [7,10] ?_)
   rfl
  ·have h0:(lim N).length=0:=by rw[h.resolve_right hD,lim_zero];rfl
   have h1:=lim_pos hD;repeat (first|simp only[go_sem]|simp (disch:=first|exact omg|fail) only[AX]|refine wki ?_|refine vpd 1 [7,10] ?_)
   rfl
 ·have hN:N≠0:=fun e=>h (.inl e)
  have hD:D≠0:=fun e=>h (.inr e)
  rw[mk_parts s hN hD];have h1:=lim_pos hN;have h2:=lim_pos hD;have hg:N.gcd D≠0:=Nat.ne_of_gt (Nat.gcd_pos_of_pos_left _ (by omega));have h3:=lim_len_mono (Nat.gcd_le_left D (by omega:0<N));repeat (first|simp only[go_sem]|simp (disch:=first|exact omg|fail) only[AX]|refine wki ?_|refine vpd 1 [7,10] ?_)
  refine vf_of (ref1_GcdL) ?_;repeat (first|simp only[go_sem]|simp (disch:=first|exact omg|fail) only[AX]|refine wki ?_|refine vpd 1 [7,10] ?_)
  refine vf_of (ref1_DivL hg) ?_;repeat (first|simp only[go_sem]|simp (disch:=first|exact omg|fail) only[AX]|refine wki ?_|refine vpd 1 [7,10] ?_)
  refine vf_of (ref1_DivL hg) ?_;repeat (first|simp only[go_sem]|simp (disch:=first|exact omg|fail) only[AX]|refine wki ?_|refine vpd 1 [7,10] ?_)
theorem ref2_Of (s:Bool) (n d:List Nat) (hn:okL n) (hd:okL d) (hl:n.length<=16777216) (hm:d.length<=16777216) :
  Go.Ev.Fn CX 39 [.bool s,natV n,natV d] (rv (mkRat (sgn s (wth n)) (wth d))):=by
 have hN:=ref2_Norm (v:=ratV s n d) (L:=16777216) ⟨s,n,d,rfl,hn,hd,hl,hm,rfl⟩;refine fni Tryz.f39 ?_;unfold Tryz.f39;repeat (first|simp only[go_sem]|simp (disch:=first|exact omg|fail) only[AX]|refine wki ?_|refine vfa ?_)
theorem ref2_OfL {s:Bool} {n d:Nat} (hl:(lim n).length<=16777216:=by omega) (hm:(lim d).length<=16777216:=by omega) :
  Go.Ev.Fn CX 39 [.bool s,natV (lim n),natV (lim d)] (rv (mkRat (sgn s n) d)):=by
 have h:=ref2_Of s (lim n) (lim d) (okL_lim _) (okL_lim _) hl hm;rwa [wth_lim,wth_lim]at h
theorem ref2_Mul {v w:SV} {q r:Rat} {L M:Nat} (hv:RatA v q L) (hw:RatA w r M) (hL:1<=L:=by omega) (hM:1<=M:=by omega) (h:L+M<=8388608:=by omega):Go.Ev.Fn CX 92 [v,w] (rv (q*r)):=by
 have hnv:=ref2_Norm hv;have hnw:=ref2_Norm hw;obtain⟨z1,z2⟩:=szR_of hv hL;obtain⟨y1,y2⟩:=szR_of hw hM;have g1:=lim_len_mul (a:=q.num.natAbs) (b:=r.num.natAbs);have g2:=lim_len_mul (a:=q.den) (b:=r.den);have hOf:=ref2_OfL (s := !(decide (q.num<0)==decide (r.num<0))) (n:=q.num.natAbs*r.num.natAbs) (d:=q.den*r.den);rw[mul_parts]at hOf;obtain⟨s,n,d,rfl,-⟩:=hv;obtain⟨s',n',d',rfl,-⟩:=hw;refine fni Tryz.f92 ?_;unfold Tryz.f92;repeat (first|simp only[go_sem]|simp (disch:=first|exact omg|fail) only[AX]|refine wki ?_|refine vpd 1 [] ?_|refine vpd 2 [17,19,22,24,20,25] ?_|refine vfa ?_)
 refine vf_of (ref1_MulL) ?_;repeat (first|simp only[go_sem]|simp (disch:=first|exact omg|fail) only[AX]|refine wki ?_|refine vpd 1 [] ?_|refine vpd 2 [17,19,22,24,20,25] ?_)
 refine vf_of (ref1_MulL) ?_;repeat (first|simp only[go_sem]|simp (disch:=first|exact omg|fail) only[AX]|refine wki ?_|refine vpd 1 [] ?_|refine vpd 2 [17,19,22,24,20,25] ?_)
 refine vfa ?_;repeat (first|simp only[go_sem]|simp (disch:=first|exact omg|fail) only[AX]|refine wki ?_|refine vpd 1 [] ?_|refine vpd 2 [17,19,22,24,20,25] ?_)
theorem ref2_limbs (a b:List Nat) (ha:a.length<=274877906944:=by omega) (hb:b.length<=274877906944:=by omega):Go.Ev.Fn CX 69 [natV a,natV b] (.bool (decide (a=b))):=by
 refine fni Tryz.f69 ?_;unfold Tryz.f69;by_cases hl:a.length=b.length
 ·repeat (first|simp only[go_sem]|simp (disch:=first|exact omg|fail) only[AX]|refine wki ?_|refine vpd 6 [] ?_)
  refine vp_loop_inv (fun s=>s.tmp 0 = .sv (natV a)/\s.tmp 1 = .sv (natV b) /\ ∃i:Nat,s.tmp 5 = .sv (.int .i64 i)/\i<=a.length/\a.take i=b.take i) (fun s=>match s.tmp 5 with | .sv (.int _ i)=>a.length-i.toNat|_=>0) ⟨rfl,rfl,0,rfl,by omega,rfl⟩ ?_;rintro s ⟨i0,i1,i,i5,hi,ht⟩
  by_cases hend:i=a.length
  ·subst hend;rw[wV,hl,wV]at ht;rw[decide_eq_true ht];repeat (first|simp only[go_sem,i0,i1,i5]|simp (disch:=first|exact omg|fail) only[AX,i0,i1,i5]|refine wki ?_|refine vpd 6 [] ?_)
  ·have e : ∀c:List Nat,i<c.length->c.take (i+1)=c.take i++[c.getD i 0]:=by
    intro c hc;rw[List.take_add_one,xW,xX hc];rfl
   by_cases hx:a.getD i 0=b.getD i 0
   ·repeat (first|simp only[go_sem,i0,i1,i5]|simp (disch:=first|exact omg|fail) only[AX,i0,i1,i5]|refine wki ?_|refine vpd 6 [] ?_)
    exact⟨⟨i+1,rfl,by omega,by rw[e a (by omega),e b (by omega),ht,hx]⟩,by omega⟩
   ·rw[decide_eq_false (fun h=>hx (by rw[h]))];repeat (first|simp only[go_sem,i0,i1,i5]|simp (disch:=first|exact omg|fail) only[AX,i0,i1,i5]|refine wki ?_|refine vpd 6 [] ?_)
 ·rw[decide_eq_false (fun h=>hl (by rw[h]))];repeat (first|simp only[go_sem]|simp (disch:=first|exact omg|fail) only[AX]|refine wki ?_|refine vpd 6 [] ?_)
theorem rv_eq {q r:Rat} (h1:decide (q.num<0)=decide (r.num<0)) (h2:lim q.num.natAbs=lim r.num.natAbs) (h3:lim q.den=lim r.den):q=r:=by
 have h4:=lim_inj h2;have h5:=lim_inj h3;refine Rat.ext ?_ h5;by_cases h:q.num<0
 ·rw[decide_eq_true h]at h1;have:=of_decide_eq_true h1.symm;omega
 ·rw[decide_eq_false h]at h1;have:=of_decide_eq_false h1.symm;omega
theorem ref2_Same {v w:SV} {q r:Rat} {L M:Nat} (hv:RatA v q L) (hw:RatA w r M) (hL:1<=L) (hM:1<=M:=by omega) (h:L+M<=8388608:=by omega):Go.Ev.Fn CX 18 [v,w] (.bool (decide (q=r))):=by
 have hnv:=ref2_Norm hv;have hnw:=ref2_Norm hw;obtain⟨z1,z2⟩:=szR_of hv hL;obtain⟨y1,y2⟩:=szR_of hw hM;have l1:=ref2_limbs (lim q.num.natAbs) (lim r.num.natAbs);have l2:=ref2_limbs (lim q.den) (lim r.den);have hbb:=beq_bool (decide (q.num<0)) (decide (r.num<0));obtain⟨s,n,d,rfl,-⟩:=hv;obtain⟨s',n',d',rfl,-⟩:=hw;refine fni Tryz.f18 ?_;unfold Tryz.f18;repeat (first|simp only[go_sem,hbb]|simp (disch:=first|exact omg|fail) only[AX,hbb]|refine wki ?_|refine vpd 1 [] ?_|refine vfa ?_)
 by_cases h1:decide (q.num<0)=decide (r.num<0)
 ·rw[decide_eq_true h1];by_cases h2:lim q.num.natAbs=lim r.num.natAbs
  ·rw[decide_eq_true h2]at l1;repeat (first|simp only[go_sem]|simp (disch:=first|exact omg|fail) only[AX]|refine wki ?_|refine vpd 1 [] ?_)
   have e:decide (lim q.den=lim r.den)=decide (q=r):=by
    by_cases h3:lim q.den=lim r.den
    ·rw[decide_eq_true h3,decide_eq_true (rv_eq h1 h2 h3)]
    ·rw[decide_eq_false h3,decide_eq_false (fun e=>h3 (by rw[e]))]
   rw[e]at l2;repeat (first|simp only[go_sem]|simp (disch:=first|exact omg|fail) only[AX]|refine wki ?_|refine vpd 1 [] ?_|refine vfa ?_)
  ·rw[decide_eq_false h2]at l1;have hne:q≠r:=fun e=>h2 (by rw[e])
   rw[decide_eq_false hne];repeat (first|simp only[go_sem]|simp (disch:=first|exact omg|fail) only[AX]|refine wki ?_|refine vpd 1 [] ?_|refine vfa ?_)
 ·have hne:q≠r:=fun e=>h1 (by rw[e])
  rw[decide_eq_false h1,decide_eq_false hne];repeat (first|simp only[go_sem]|simp (disch:=first|exact omg|fail) only[AX]|refine wki ?_|refine vpd 1 [] ?_)
theorem ref2_Int (n:Int) (h : -9223372036854775808<=n/\n<9223372036854775808:=by omega):Go.Ev.Fn CX 22 [.int .i64 n] (rv (n:Rat)):=by
 have oN:=ref1_Of n.natAbs;have e1:=int_u64 h;have hl:=lim_two (v:=n.natAbs) |>.2 (by omega)
 have hOf:=ref2_OfL (s:=decide (n<0)) (n:=n.natAbs) (d:=1) (by omega) (by rw[lim_one];simp);rw[lim_one,sgn_self,show mkRat n 1=(n:Rat) from Rat.mkRat_one n]at hOf;refine fni Tryz.f22 ?_;unfold Tryz.f22;by_cases h0:n<0
 ·rw[if_pos h0]at e1;rw[decide_eq_true h0]at hOf;have e2:IntKind.u64.wrap (0-((18446744073709551616-n.natAbs:Nat):Int))=(n.natAbs:Int):=by rw[IntKind.wrap_u64];omega
  repeat (first|simp only[go_sem,e1,e2]|simp (disch:=first|exact omg|fail) only[AX,e1,e2]|refine wki ?_|refine vfa ?_)
 ·rw[if_neg h0]at e1;rw[decide_eq_false h0]at hOf;repeat (first|simp only[go_sem,e1]|simp (disch:=first|exact omg|fail) only[AX,e1]|refine wki ?_|refine vfa ?_)
theorem ref2_Add {v w:SV} {q r:Rat} {L M:Nat} (hv:RatA v q L) (hw:RatA w r M) (hL:1<=L:=by omega) (hM:1<=M:=by omega) (h:L+M<=8388608:=by omega):Go.Ev.Fn CX 24 [v,w] (rv (q+r)):=by
 have hnv:=ref2_Norm hv;have hnw:=ref2_Norm hw;obtain⟨z1,z2⟩:=szR_of hv hL;obtain⟨y1,y2⟩:=szR_of hw hM;have g1:=lim_len_mul (a:=q.num.natAbs) (b:=r.den);have g2:=lim_len_mul (a:=r.num.natAbs) (b:=q.den);have g3:=lim_len_mul (a:=q.den) (b:=r.den);have g4:=lim_len_add2 (a:=q.num.natAbs*r.den) (b:=r.num.natAbs*q.den) (L:=L+M);have g5:=lim_len_mono (zt (q.num.natAbs*r.den) (r.num.natAbs*q.den));have g6:=lim_len_mono (zt (r.num.natAbs*q.den) (q.num.natAbs*r.den));obtain⟨s,n,d,rfl,-⟩:=hv;obtain⟨s',n',d',rfl,-⟩:=hw;have hbb:=beq_bool (decide (q.num<0)) (decide (r.num<0))
 refine fni Tryz.f24 ?_;unfold Tryz.f24;repeat (first|simp only[go_sem]|simp (disch:=first|exact omg|fail) only[AX]|refine wki ?_|refine vpd 1 [] ?_|refine vpd 2 [19,21,24,26] ?_|refine vpd 5 [7,8,42,9] ?_|refine vfa ?_)
 refine vf_of (ref1_MulL) ?_;repeat (first|simp only[go_sem]|simp (disch:=first|exact omg|fail) only[AX]|refine wki ?_|refine vpd 1 [] ?_|refine vpd 2 [19,21,24,26] ?_|refine vpd 5 [7,8,42,9] ?_)
 refine vf_of (ref1_MulL) ?_;repeat (first|simp only[go_sem]|simp (disch:=first|exact omg|fail) only[AX]|refine wki ?_|refine vpd 1 [] ?_|refine vpd 2 [19,21,24,26] ?_|refine vpd 5 [7,8,42,9] ?_)
 refine vf_of (ref1_MulL) ?_;repeat (first|simp only[go_sem,hbb]|simp (disch:=first|exact omg|fail) only[AX,hbb]|refine wki ?_|refine vpd 1 [] ?_|refine vpd 2 [19,21,24,26] ?_|refine vpd 5 [7,8,42,9] ?_)
 by_cases hs:decide (q.num<0)=decide (r.num<0)
 ·have hOf:=ref2_OfL (s:=decide (q.num<0)) (n:=q.num.natAbs*r.den+r.num.natAbs*q.den) (d:=q.den*r.den);rw[add_same q r hs]at hOf;rw[decide_eq_true hs];repeat (first|simp only[go_sem]|simp (disch:=first|exact omg|fail) only[AX]|refine wki ?_|refine vpd 1 [] ?_|refine vpd 2 [19,21,24,26] ?_|refine vpd 5 [7,8,42,9] ?_)
  refine vf_of (ref1_AddL) ?_;repeat (first|simp only[go_sem]|simp (disch:=first|exact omg|fail) only[AX]|refine wki ?_|refine vpd 1 [] ?_|refine vpd 2 [19,21,24,26] ?_|refine vpd 5 [7,8,42,9] ?_)
  refine vfa ?_;repeat (first|simp only[go_sem]|simp (disch:=first|exact omg|fail) only[AX]|refine wki ?_|refine vpd 1 [] ?_|refine vpd 2 [19,21,24,26] ?_|refine vpd 5 [7,8,42,9] ?_)
 ·rw[decide_eq_false hs];have hc:=ref1_CmpL (N:=q.num.natAbs*r.den) (D:=r.num.natAbs*q.den);repeat (first|simp only[go_sem]|simp (disch:=first|exact omg|fail) only[AX]|refine wki ?_|refine vpd 1 [] ?_|refine vpd 2 [19,21,24,26] ?_|refine vpd 5 [7,8,42,9] ?_)
  by_cases h2:r.num.natAbs*q.den<=q.num.natAbs*r.den
  ·have hOf:=ref2_OfL (s:=decide (q.num<0)) (n:=q.num.natAbs*r.den-r.num.natAbs*q.den) (d:=q.den*r.den);rw[add_ge q r hs h2]at hOf;have hcc:decide (cmpN (q.num.natAbs*r.den) (r.num.natAbs*q.den)>=0)=true:=by
    have:=cmpN_ge h2;rw[decide_eq_false_iff_not]at this;exact decide_eq_true (by omega)
   refine vfa ?_;repeat (first|simp only[go_sem,hcc]|simp (disch:=first|exact omg|fail) only[AX,hcc]|refine wki ?_|refine vpd 1 [] ?_|refine vpd 2 [19,21,24,26] ?_|refine vpd 5 [7,8,42,9] ?_)
   refine vf_of (ref1_SubL) ?_;repeat (first|simp only[go_sem]|simp (disch:=first|exact omg|fail) only[AX]|refine wki ?_|refine vpd 1 [] ?_|refine vpd 2 [19,21,24,26] ?_|refine vpd 5 [7,8,42,9] ?_)
   refine vfa ?_;repeat (first|simp only[go_sem]|simp (disch:=first|exact omg|fail) only[AX]|refine wki ?_|refine vpd 1 [] ?_|refine vpd 2 [19,21,24,26] ?_|refine vpd 5 [7,8,42,9] ?_)
  ·have hOf:=ref2_OfL (s:=decide (r.num<0)) (n:=r.num.natAbs*q.den-q.num.natAbs*r.den) (d:=q.den*r.den);rw[add_lt q r hs]at hOf;rw[cmpN_lt]at hc;refine vfa ?_;repeat (first|simp only[go_sem]|simp (disch:=first|exact omg|fail) only[AX]|refine wki ?_|refine vpd 1 [] ?_|refine vpd 2 [19,21,24,26] ?_|refine vpd 5 [7,8,42,9] ?_)
   refine vf_of (ref1_SubL) ?_;repeat (first|simp only[go_sem]|simp (disch:=first|exact omg|fail) only[AX]|refine wki ?_|refine vpd 1 [] ?_|refine vpd 2 [19,21,24,26] ?_|refine vpd 5 [7,8,42,9] ?_)
   refine vfa ?_;repeat (first|simp only[go_sem]|simp (disch:=first|exact omg|fail) only[AX]|refine wki ?_|refine vpd 1 [] ?_|refine vpd 2 [19,21,24,26] ?_|refine vpd 5 [7,8,42,9] ?_)
end Go.Proofs.YtfknkoeagjonbaaGreat
namespace Go.Proofs.YtfknkoeagjonbaaGreat
open Go.Ev
theorem szR_zero {L:Nat} (h:1<=L:=by omega):szR 0 L:=⟨by rw[show (0:Rat).num.natAbs=0 by rfl,lim_zero];simp,by rw[show (0:Rat).den=1 by rfl,lim_one];exact h⟩
theorem szR_mul {q r:Rat} {L M:Nat} (h1:szR q L) (h2:szR r M) (hL:1<=L:=by omega):szR (q*r) (L+M):=by
 rw[<- mul_parts];have g1:=lim_len_mul (a:=q.num.natAbs) (b:=r.num.natAbs);have g2:=lim_len_mul (a:=q.den) (b:=r.den);obtain⟨a1,a2⟩:=h1;obtain⟨b1,b2⟩:=h2;exact szR_mk
theorem szR_add {q r:Rat} {L M:Nat} (h1:szR q L) (h2:szR r M) (hL:1<=L:=by omega):szR (q+r) (L+M+1):=by
 have g1:=lim_len_mul (a:=q.num.natAbs) (b:=r.den);have g2:=lim_len_mul (a:=r.num.natAbs) (b:=q.den);have g3:=lim_len_mul (a:=q.den) (b:=r.den);obtain⟨a1,a2⟩:=h1;obtain⟨b1,b2⟩:=h2;have g4:=lim_len_add2 (a:=q.num.natAbs*r.den) (b:=r.num.natAbs*q.den) (L:=L+M);have e:q+r=mkRat (sgn (decide (sgn (decide (q.num<0)) (q.num.natAbs*r.den)+sgn (decide (r.num<0)) (r.num.natAbs*q.den)<0)) (sgn (decide (q.num<0)) (q.num.natAbs*r.den)+sgn (decide (r.num<0)) (r.num.natAbs*q.den)).natAbs) (q.den*r.den):=by
  rw[sgn_self];exact add_parts q r
 rw[e];refine szR_mk (xH (lim_len_mono ?_) g4);have:=Int.natAbs_add_le (sgn (decide (q.num<0)) (q.num.natAbs*r.den)) (sgn (decide (r.num<0)) (r.num.natAbs*q.den));rw[sgn_abs,sgn_abs]at this;exact this
theorem szR_sub {q r:Rat} {L M:Nat} (h1:szR q L) (h2:szR r M) (hL:1<=L:=by omega):szR (q-r) (L+M+1):=by
 rw[wm];exact szR_add h1 (szR_neg h2) hL
theorem szR_div {q r:Rat} {L M:Nat} (h1:szR q L) (h2:szR r M) (hL:1<=L:=by omega) (hM:1<=M:=by omega):szR (q/r) (L+M):=by
 by_cases hr:r=0
 ·rw[hr,xk,Rat.inv_zero,wC];exact szR_zero
 ·rw[div_parts hr];exact szR_mul h1 (szR_mk h2.2 h2.1 hM) hL
theorem ref2_Neg {v:SV} {q:Rat} {L:Nat} (hv:RatA v q L) (hL:1<=L:=by omega) (h:L<=8388608:=by omega):Go.Ev.Fn CX 76 [v] (rv (-q)):=by
 have hnv:=ref2_Norm hv;obtain⟨z1,z2⟩:=szR_of hv hL;rw[neg_parts];obtain⟨s,n,d,rfl,-⟩:=hv;refine fni Tryz.f76 ?_;unfold Tryz.f76;repeat (first|simp only[go_sem]|simp (disch:=first|exact omg|fail) only[AX]|refine wki ?_|refine vfa ?_)
 cases hs:decide (q.num<0)
 ·rcases xo (lim q.num.natAbs).length with h0|h0
  ·rw[decide_eq_false (show ¬0<(lim q.num.natAbs).length by omega)];repeat (first|simp only[go_sem,xL,xg]|simp (disch:=first|exact omg|fail) only[AX,xL,xg]|refine wki ?_)
  ·rw[decide_eq_true h0];repeat (first|simp only[go_sem,xL,xg]|simp (disch:=first|exact omg|fail) only[AX,xL,xg]|refine wki ?_)
 ·repeat (first|simp only[go_sem,xL,xg]|simp (disch:=first|exact omg|fail) only[AX,xL,xg]|refine wki ?_)
  rfl
theorem sgn_mul2 (s t:Bool) (a b:Nat):sgn s a*sgn t b=sgn (!(s==t)) (a*b):=by
 cases s<;>cases t<;>simp[sgn,wX,wY]
theorem quo_parts {q r:Rat} (hr:r≠0):mkRat (sgn (!(decide (q.num<0)==decide (r.num<0))) (q.num.natAbs*r.den)) (q.den*r.num.natAbs)=q/r:=by
 rw[div_parts hr,<- sgn_mul2,<- Rat.mkRat_mul_mkRat,sgn_self,wB]
theorem ref2_Div {v w:SV} {q r:Rat} {L M:Nat} (hv:RatA v q L) (hw:RatA w r M) (hL:1<=L:=by omega) (hM:1<=M:=by omega) (h:L+M<=8388608:=by omega):Go.Ev.Fn CX 93 [v,w] (.tup [rv (q/r),.bool (decide (r≠0))]):=by
 have hnv:=ref2_Norm hv;have hnw:=ref2_Norm hw;obtain⟨z1,z2⟩:=szR_of hv hL;obtain⟨y1,y2⟩:=szR_of hw hM;have g1:=lim_len_mul (a:=q.num.natAbs) (b:=r.den);have g2:=lim_len_mul (a:=q.den) (b:=r.num.natAbs);obtain⟨s,n,d,rfl,-⟩:=hv;obtain⟨s',n',d',rfl,-⟩:=hw;have h0:=ref2_Norm (v:=ratV false [] []) (q:=0) (L:=1) ⟨_,_,_,rfl,okL_nil,okL_nil,by simp,by simp,by rw[wth_nil];exact(mk_zero false (.inl rfl)).symm⟩;refine fni Tryz.f93 ?_;unfold Tryz.f93
 repeat (first|simp only[go_sem]|simp (disch:=first|exact omg|fail) only[AX]|refine wki ?_|refine vpd 1 [] ?_|refine vpd 4 [24,26,29,31,27,32] ?_|refine vfa ?_)
 by_cases hr:r=0
 ·have hl:(lim r.num.natAbs).length=0:=by rw[num_zero.2 hr];simp[lim_zero]
  rw[show decide (r≠0)=false from decide_eq_false (fun e=>e hr),hr,xk,Rat.inv_zero,wC];subst hr;repeat (first|simp only[go_sem]|simp (disch:=first|exact omg|fail) only[AX]|refine wki ?_|refine vpd 1 [] ?_|refine vpd 4 [24,26,29,31,27,32] ?_|refine vfa ?_)
 ·have hl:=lim_pos (N:=r.num.natAbs) (fun e=>hr (num_zero.1 (by omega)));have hOf:=ref2_OfL (s := !(decide (q.num<0)==decide (r.num<0))) (n:=q.num.natAbs*r.den) (d:=q.den*r.num.natAbs);rw[quo_parts hr]at hOf;rw[decide_eq_true hr];repeat (first|simp only[go_sem]|simp (disch:=first|exact omg|fail) only[AX]|refine wki ?_|refine vpd 1 [] ?_|refine vpd 4 [24,26,29,31,27,32] ?_)
  refine vf_of (ref1_MulL) ?_;repeat (first|simp only[go_sem]|simp (disch:=first|exact omg|fail) only[AX]|refine wki ?_|refine vpd 1 [] ?_|refine vpd 4 [24,26,29,31,27,32] ?_)
  refine vf_of (ref1_MulL) ?_;repeat (first|simp only[go_sem]|simp (disch:=first|exact omg|fail) only[AX]|refine wki ?_|refine vpd 1 [] ?_|refine vpd 4 [24,26,29,31,27,32] ?_)
  refine vfa ?_;repeat (first|simp only[go_sem]|simp (disch:=first|exact omg|fail) only[AX]|refine wki ?_|refine vpd 1 [] ?_|refine vpd 4 [24,26,29,31,27,32] ?_)
end Go.Proofs.YtfknkoeagjonbaaGreat
namespace Go.Proofs.YtfknkoeagjonbaaGreat
open Go.Ev
def cmpR (q r:Rat):Int:=if q<r then -1 else if q=r then 0 else 1
theorem sub_num {q r:Rat}:(q-r).num<0↔q<r:=by
 have h:(q-r).num<0↔q-r<0:=by
  have:=zL (q:=q-r);constructor
  ·intro h;have h1 : ¬0<=q-r:=fun g=>absurd (this.2 g) (by omega)
   grind
  ·intro h;rcases Int.lt_or_le (q-r).num 0 with h1|h1
   ·exact h1
   ·exact absurd (this.1 h1) (by grind)
 rw[h];constructor<;>intro h<;>grind
theorem sub_zero' {q r:Rat}:(q-r).num=0↔q=r:=by
 rw[Rat.num_eq_zero];constructor<;>intro h<;>grind
theorem int_szR {n:Int} (h : -9223372036854775808<=n/\n<=9223372036854775808:=by omega):szR (n:Rat) 2:=by
 refine⟨?_,?_⟩
 ·show (lim n.natAbs).length<=2;exact lim_two.2 (by omega)
 ·show (lim 1).length<=2;rw[lim_one];simp
theorem rat_Cmp {v w:SV} {q r:Rat} {L M:Nat} (hv:RatA v q L) (hw:RatA w r M) (hL:1<=L:=by omega) (hM:1<=M:=by omega) (h:L+M<=268435456:=by omega):Go.Ev.Fn CX 28 [v,w] (.int .i64 (cmpR q r)):=by
 have hs:=rat_Sub hv hw hL hM h;have hz:=szR_sub (szR_of hv hL) (szR_of hw hM) hL;obtain⟨s,n,d,rfl,-⟩:=hv;obtain⟨s',n',d',rfl,-⟩:=hw;obtain⟨y1,-⟩:=hz;refine fni Tryz.f28 ?_;unfold Tryz.f28;by_cases h1:q<r
 ·have e:decide ((q-r).num<0)=true:=decide_eq_true (sub_num.2 h1);rw[show cmpR q r = -1 from if_pos h1];repeat (first|simp only[go_sem,e]|simp (disch:=first|exact omg|fail) only[AX,e]|refine wki ?_|refine vfa ?_)
 ·have e:decide ((q-r).num<0)=false:=decide_eq_false (fun h=>h1 (sub_num.1 h));by_cases h2:q=r
  ·have e2:(lim (q-r).num.natAbs).length=0:=by rw[sub_zero'.2 h2];simp[lim_zero]
   rw[show cmpR q r=0 by unfold cmpR;rw[if_neg h1,if_pos h2]];repeat (first|simp only[go_sem,e]|simp (disch:=first|exact omg|fail) only[AX,e]|refine wki ?_|refine vfa ?_)
  ·have e2:=lim_pos (N:=(q-r).num.natAbs) (fun h=>h2 (sub_zero'.1 (by omega)));rw[show cmpR q r=1 by unfold cmpR;rw[if_neg h1,if_neg h2]];repeat (first|simp only[go_sem,e]|simp (disch:=first|exact omg|fail) only[AX,e]|refine wki ?_|refine vfa ?_)
theorem ref2_Sub {v w:SV} {q r:Rat} {L M:Nat} (hv:RatA v q L) (hw:RatA w r M) (hL:1<=L:=by omega) (hM:1<=M:=by omega) (h:L+M<=8388608:=by omega):Go.Ev.Fn CX 25 [v,w] (rv (q-r)):=by
 have hN:=ref2_Neg hw hM;have hA:=ref2_Add hv (RatA_rv (szR_neg (szR_of hw hM))) hL hM h;rw[<- wm]at hA;obtain⟨s,n,d,rfl,-⟩:=hv;obtain⟨s',n',d',rfl,-⟩:=hw;refine fni Tryz.f25 ?_;unfold Tryz.f25;repeat (first|simp only[go_sem]|simp (disch:=first|exact omg|fail) only[AX]|refine wki ?_|refine vpd 1 [] ?_|refine vfa ?_)
theorem ref2_Cmp {v w:SV} {q r:Rat} {L M:Nat} (hv:RatA v q L) (hw:RatA w r M) (hL:1<=L:=by omega) (hM:1<=M:=by omega) (h:L+M<=8388608:=by omega):Go.Ev.Fn CX 21 [v,w] (.int .i64 (cmpR q r)):=by
 have hs:=ref2_Sub hv hw hL hM h;have hz:=szR_sub (szR_of hv hL) (szR_of hw hM) hL;obtain⟨s,n,d,rfl,-⟩:=hv;obtain⟨s',n',d',rfl,-⟩:=hw;obtain⟨y1,-⟩:=hz;refine fni Tryz.f21 ?_;unfold Tryz.f21;by_cases h2:q=r
 ·have e2:(lim (q-r).num.natAbs).length=0:=by rw[sub_zero'.2 h2];simp[lim_zero]
  have h1 : ¬q<r:=by grind
  rw[show cmpR q r=0 by unfold cmpR;rw[if_neg h1,if_pos h2]];repeat (first|simp only[go_sem]|simp (disch:=first|exact omg|fail) only[AX]|refine wki ?_|refine vfa ?_)
 ·have e2:=lim_pos (N:=(q-r).num.natAbs) (fun h=>h2 (sub_zero'.1 (by omega)));by_cases h1:q<r
  ·have e:decide ((q-r).num<0)=true:=decide_eq_true (sub_num.2 h1);rw[show cmpR q r = -1 from if_pos h1];repeat (first|simp only[go_sem,e]|simp (disch:=first|exact omg|fail) only[AX,e]|refine wki ?_|refine vfa ?_)
  ·have e:decide ((q-r).num<0)=false:=decide_eq_false (fun h=>h1 (sub_num.1 h));rw[show cmpR q r=1 by unfold cmpR;rw[if_neg h1,if_neg h2]];repeat (first|simp only[go_sem,e]|simp (disch:=first|exact omg|fail) only[AX,e]|refine wki ?_|refine vfa ?_)
theorem cmpR_gt {q r:Rat}:decide (cmpR q r>0)=decide (r<q):=by
 unfold cmpR;by_cases h1:q<r
 ·rw[if_pos h1,decide_eq_false (by decide),decide_eq_false (by grind)]
 ·rw[if_neg h1];by_cases h2:q=r
  ·rw[if_pos h2,decide_eq_false (by decide),decide_eq_false (by grind)]
  ·rw[if_neg h2,decide_eq_true (by decide),decide_eq_true (by grind)]
theorem cmpR_lt {q r:Rat}:decide (cmpR q r<0)=decide (q<r):=by
 unfold cmpR;by_cases h1:q<r
 ·rw[if_pos h1,decide_eq_true (by decide),decide_eq_true h1]
 ·rw[if_neg h1,decide_eq_false h1];by_cases h2:q=r
  ·rw[if_pos h2,decide_eq_false (by decide)]
  ·rw[if_neg h2,decide_eq_false (by decide)]
theorem cmpR_ge {q r:Rat}:decide (cmpR q r>=0)=decide (r<=q):=by
 unfold cmpR;by_cases h1:q<r
 ·rw[if_pos h1,decide_eq_false (by decide),decide_eq_false (by grind)]
 ·rw[if_neg h1,decide_eq_true (show r<=q by grind)];by_cases h2:q=r
  ·rw[if_pos h2,decide_eq_true (by decide)]
  ·rw[if_neg h2,decide_eq_true (by decide)]
theorem cmpR_le {q r:Rat}:decide (cmpR q r<=0)=decide (q<=r):=by
 unfold cmpR;by_cases h1:q<r
 ·rw[if_pos h1,decide_eq_true (by decide),decide_eq_true (show q<=r by grind)]
 ·rw[if_neg h1];by_cases h2:q=r
  ·rw[if_pos h2,decide_eq_true (by decide),decide_eq_true (show q<=r by grind)]
  ·rw[if_neg h2,decide_eq_false (by decide),decide_eq_false (show ¬q<=r by grind)]
theorem b_and64i {a b:Nat} (ha:a<9223372036854775808:=by omega) (hb:b<9223372036854775808:=by omega):bitsSV .and .i64 (a:Int) (b:Int)=some (.int .i64 ((a &&& b:Nat):Int)):=by
 have h:a &&& b<2^63:=yM Nat.and_le_left ha;have e:IntKind.i64.wrap ((BitVec.ofInt IntKind.i64.bits (a:Int) &&& BitVec.ofInt IntKind.i64.bits (b:Int)).toNat:Int)=((a &&& b:Nat):Int):=by
  show IntKind.i64.wrap ((BitVec.ofInt 64 (a:Int) &&& BitVec.ofInt 64 (b:Int)).toNat:Int)=_;rw[ofInt_nat,ofInt_nat,BitVec.toNat_and,BitVec.toNat_ofNat,BitVec.toNat_ofNat,yB (show a<2^64 by omega),yB (show b<2^64 by omega),wI64]
 show some (SV.int _ _)=_;rw[e]
theorem and_one64 {a:Nat} (ha:a<9223372036854775808:=by omega):bitsSV .and .i64 (a:Int) 1=some (.int .i64 ((a%2:Nat):Int)):=by
 have:=b_and64i ha (b:=1);rw[and_one]at this;exact this
theorem lim_len1:(lim 1).length<=1:=lim_len_one (by decide)
end Go.Proofs.YtfknkoeagjonbaaGreat
namespace Go.Proofs.YtfknkoeagjonbaaGreat
open Go.Ev
abbrev p2 (w:Nat):Rat:=((2^w:Nat):Rat)
theorem p2_pos (w:Nat):0<p2 w:=by
 have:0<2^w:=xK (by omega);exact_mod_cast this
def Enc (w a b:Nat) (q:Rat):Prop:=(a:Rat)<=q*p2 w/\q*p2 w<=(b:Rat)
theorem floor_le {a d:Nat}:((a/d:Nat):Rat)*(d:Rat)<=(a:Rat):=by
 have:=wO a d;exact_mod_cast this
theorem le_floor {a d:Nat} (hd:0<d):(a:Rat)<=((a/d+1:Nat):Rat)*(d:Rat):=by
 have h2:a<=(a/d+1)*d:=by
  have:=yl a d;have h3:=yI a hd;rw[xZ,xe,xV];omega
 exact_mod_cast h2
theorem enc_add {w a b c d:Nat} {q r:Rat} (h1:Enc w a b q) (h2:Enc w c d r):Enc w (a+c) (b+d) (q+r):=by
 obtain⟨x1,x2⟩:=h1;obtain⟨y1,y2⟩:=h2;have e1:((a+c:Nat):Rat)=(a:Rat)+(c:Rat):=by exact_mod_cast rfl
 have e2:((b+d:Nat):Rat)=(b:Rat)+(d:Rat):=by exact_mod_cast rfl
 unfold Enc;rw[e1,e2];constructor<;>grind
theorem enc_wider {w a b n:Nat} {q:Rat} (h:Enc w a b q):Enc w a (b+n) q:=by
 obtain⟨x1,x2⟩:=h;refine⟨x1,xE x2 ?_⟩;have:b<=b+n:=wI _ _;exact_mod_cast this
theorem enc_nonneg {w a b:Nat} {q:Rat} (h:Enc w a b q):0<=q:=by
 have h0:(0:Rat)<=(a:Rat):=by exact_mod_cast zj a
 have h1:0<=q*p2 w:=xE h0 h.1;rcases zC (a:=0) (b:=q) with h2|h2
 ·exact h2
 ·by_cases e:q=0
  ·rw[e];exact xN
  ·have:q*p2 w<0:=by
    have h3:0<(-q)*p2 w:=xt (by grind) (p2_pos w);grind
   grind
theorem le_by {x y c:Rat} (hc:0<c) (h:x*c<=y*c):x<=y:=by
 rcases zC (a:=x) (b:=y) with h1|h1
 ·exact h1
 ·have h2:=xA h1 (by grind:(0:Rat)<=c);have h3:(x-y)*c=0:=by grind
  rcases Rat.mul_eq_zero.1 h3 with h4|h4<;>grind
theorem mul_le {a b c d:Rat} (h1:a<=b) (h2:c<=d) (hb:0<=b) (hc:0<=c):a*c<=b*d:=
 xE (xA h1 hc) (xB h2 hb)
theorem nat_nonneg (a:Nat):(0:Rat)<=(a:Rat):=by exact_mod_cast zj a
theorem enc_mul {w a b c d:Nat} {q r:Rat} (h1:Enc w a b q) (h2:Enc w c d r):Enc w (a*c/2^w) (b*d/2^w+1) (q*r):=by
 have hq:=enc_nonneg h1;have P:=p2_pos w;obtain⟨x1,x2⟩:=h1;have hr:=enc_nonneg h2;obtain⟨y1,y2⟩:=h2;have f:=floor_le (a:=a*c) (d:=2^w);have g:=le_floor (a:=b*d) (d:=2^w) (xK (by omega));have e1:((a*c:Nat):Rat)=(a:Rat)*(c:Rat):=by exact_mod_cast rfl
 have e2:((b*d:Nat):Rat)=(b:Rat)*(d:Rat):=by exact_mod_cast rfl
 have m1:=mul_le x1 y1 (xE (nat_nonneg a) x1) (nat_nonneg c);have m2:=mul_le x2 y2 (nat_nonneg b) (xE (nat_nonneg c) y1);refine⟨le_by P ?_,le_by P ?_⟩
 ·rw[e1]at f;show ((a*c/2^w:Nat):Rat)*p2 w<=_;have:q*r*p2 w*p2 w=q*p2 w*(r*p2 w):=by grind
  rw[this];exact xE f m1
 ·rw[e2]at g;have:q*r*p2 w*p2 w=q*p2 w*(r*p2 w):=by grind
  rw[this];exact xE m2 g
theorem enc_times {w a b n d:Nat} {q:Rat} (hd:0<d) (h:Enc w a b q):Enc w (a*n/d) (b*n/d+1) (q*(n:Rat)/(d:Rat)):=by
 obtain⟨x1,x2⟩:=h;have D:(0:Rat)<(d:Rat):=by exact_mod_cast hd
 have Dn:(d:Rat)≠0:=by grind
 have f:=floor_le (a:=a*n) (d:=d);have g:=le_floor (a:=b*n) (d:=d) hd;have e1:((a*n:Nat):Rat)=(a:Rat)*(n:Rat):=by exact_mod_cast rfl
 have e2:((b*n:Nat):Rat)=(b:Rat)*(n:Rat):=by exact_mod_cast rfl
 have m1:=xA x1 (nat_nonneg n);have m2:=xA x2 (nat_nonneg n);have c:q*(n:Rat)/(d:Rat)*p2 w*(d:Rat)=q*p2 w*(n:Rat):=by
  have:=xd (a:=q*(n:Rat)) Dn;have h2:q*(n:Rat)/(d:Rat)*p2 w*(d:Rat)=q*(n:Rat)/(d:Rat)*(d:Rat)*p2 w:=by grind
  rw[h2,this];grind
 refine⟨le_by D ?_,le_by D ?_⟩
 ·rw[e1]at f;rw[c];exact xE f m1
 ·rw[e2]at g;rw[c];exact xE m2 g
end Go.Proofs.YtfknkoeagjonbaaGreat
namespace Go.Ev
def pin {α:Type} (n:Nat) (f:Nat->α):α:=match n with
 |0=>f 0
 |m+1=>f (m+1)
def angGo (w b1 b2:Nat):Nat->Nat->Nat->Nat->Nat->Nat->Option (Nat×Nat)
 |0,_,_,_,_,_=>none
 |f+1,k,t1,t2,a1,a2=>if t2<4 then some (a1,a2+8) else
  pin (t1*b1/2^w*(2*k)/(2*k+1)) fun u1=>pin ((t2*b2/2^w+1)*(2*k)/(2*k+1)+1) fun u2=>
  pin (a1+u1) fun c1=>pin (a2+u2) fun c2=>pin (k+1) fun k'=>angGo w b1 b2 f k' u1 u2 c1 c2
def angF (n d w:Nat):Option (Nat×Nat):=
 pin (n*n*2^w/(n*n+d*d)) fun b1=>pin (n*d*2^w/(n*n+d*d)) fun t1=>angGo w b1 (b1+1) 1000 1 t1 (t1+1) t1 (t1+1)
def piF (w:Nat):Option (Nat×Nat):=match angF 1 5 w,angF 1 239 w with
 |some (a1,a2),some (b1,b2)=>some (a1*16-(b2*4+1),(a2*16+1-b1*4)+1)
 |_,_=>none
def rootPi:Nat:=4576918740415440415430138886030104330034393630387746481038405196946375920276839941112766425178723903652484208164514262098
def piOk (p:Nat):Bool:=match piF (p+64) with
 |some (lo,hi)=>pin (lo/2^64) fun a=>Nat.beq a ((hi-1)/2^64)&&(Nat.ble (a*2^(800-p)) (rootPi*rootPi)&&Nat.ble (rootPi*rootPi) ((a+1)*2^(800-p)))
 |none=>false
def allFrom (f:Nat->Bool):Nat->Nat->Bool
 |0,_=>true
 |n+1,k=>f k&&allFrom f n (k+1)
theorem pi_ok:allFrom piOk 225 8=true:=by kernel_rfl
def cdv (a b:Nat):Nat:=(a+b-1)/b
def smGo (w s1 s2:Nat):Nat->Nat->Bool->Nat->Nat->Nat->Nat->Nat->Nat->Option (Nat×Nat×Nat×Nat)
 |0,_,_,_,_,_,_,_,_=>none
 |f+1,i,odd,t1,t2,a1,a2,b1,b2=>
  pin (t1*s1/2^w) fun u1=>pin (cdv (t2*s2) (2^w)) fun u2=>pin (u1/(2*i+1)) fun x1=>pin (cdv u2 (2*i+1)) fun x2=>pin (i+1) fun i' =>
  match odd with
  |true=>pin (b1+x1) fun c1=>pin (b2+x2) fun c2=>if u2<=2 then some (a1,a2,c1,c2) else smGo w s1 s2 f i' false u1 u2 a1 a2 c1 c2
  |false=>pin (a1+x1) fun c1=>pin (a2+x2) fun c2=>if u2<=2 then some (c1,c2,b1,b2) else smGo w s1 s2 f i' true u1 u2 c1 c2 b1 b2
def smF (d w:Nat):Option (Nat×Nat):=pin (2^w/d) fun y1=>pin (cdv (2^w) d) fun y2=>pin (y1*y1/2^w) fun s1=>pin (cdv (y2*y2) (2^w)) fun s2=>
 match smGo w s1 s2 1000 1 true y1 y2 y1 y2 0 0 with
 |some (a1,a2,b1,b2)=>if b2+4<=a1/\b1<=a2 then some (a1-b2-4,a2-b1+4) else none
 |none=>none
def piIv (w:Nat):Option (Nat×Nat):=match smF 5 (w+10),smF 239 (w+10) with
 |some (a1,a2),some (b1,b2)=>if b2*4<=a1*16/\b1*4<=a2*16 then some ((a1*16-b2*4)/2^10,cdv (a2*16-b1*4) (2^10)) else none
 |_,_=>none
end Go.Ev
