/- Part 10 of the proof: the evaluator, contracts of functions and their plain laws (joined by program). No condition. -/
import Derived.Test.YtfknkoeagjonbaaGreatPart9
set_option linter.unusedVariables false
set_option linter.unusedSimpArgs false
set_option maxRecDepth 100000
namespace Go.Proofs.YtfknkoeagjonbaaGreat
open Go.Ev
theorem rat_parts {a:Rat} (z:szR a 2) (h:0<a) : ∃N D:Nat,0<N/\0<D/\N<18446744073709551616/\D<18446744073709551616/\a*(D:Rat)=(N:Rat):=by
 have dR:(0:Rat)<(a.den:Rat):=by exact_mod_cast a.den_pos
 have e:a*(a.den:Rat)=((a.num.natAbs:Nat):Rat):=by rw[Ex.denR a,<- castZn,num_abs (xG h)]
 have bd : ∀ {x:Nat},(lim x).length<=2->x<18446744073709551616:=by
  intro x hx;have a:x<4294967296^(lim x).length:=lim_len_pow;have b:4294967296^(lim x).length<=4294967296^2:=xD (by omega) hx;omega
 refine⟨a.num.natAbs,a.den,?_,a.den_pos,bd z.1,bd z.2,e⟩;refine Nat.pos_of_ne_zero fun g => ?_
 rw[g]at e;have:=xt h dR;rw[e]at this;exact absurd this (by decide)
def LoG (n:Nat) (r:Rat):Tells:=fun x l=>(x<=0/\l=0)\/(0<x/\LoI n (r*x) l)
def HiG (n:Nat) (r:Rat):Tells:=fun x h=>(x<=0/\h=0)\/(0<x/\HiI n (r*x) h)
section
variable {n:Nat} {k kn km:Int} {sa sb:Bool} {na da nb db:List Nat} {a b r:Rat} {x y l h:Rat} {v:SV} {L:Nat} {p:Int}
theorem chance_gamma (hA:RatA (ratV sa na da) a 2) (zx:szR x 20) (x0:0<x) (f:Go.Ev.Fn CX 106 [.int .i64 kn,rv (a*x),.int .i64 p] (.tup [ballR l h,.bool true])) :
  Go.Ev.Fn CX 137 [distV 3 kn km sa na da sb nb db,rv x,.int .i64 p] (.tup [ballR l h,.bool true]):=by
 have hx:=RatA_rv zx;have bl:=dist_below hx (by omega) (by omega) 0;have ab:=dist_above hx (by omega) (by omega) 0;rw[show ((0:Int):Rat)=0 from rfl]at bl ab;rw[decide_eq_false (by grind)]at bl;rw[decide_eq_true x0]at ab;have mu:=rat_Mul hA hx;generalize a*x=y at *
 clear hA hx x0;refine fni Tryz.f137 ?_;unfold Tryz.f137;repeat (first|simp only[go_sem,xL]|simp (disch:=first|exact omg|fail) only[AX,xL]|refine wki ?_|refine vpd 3 [] ?_|refine vpd 11 [] ?_|refine vpd 13 [] ?_|refine vpd 15 [] ?_|refine vpd 17 [] ?_|refine vpd 18 [] ?_|refine vpd 24 [] ?_|refine vpd 26 [] ?_|refine vfa ?_)
theorem chance_chi (zx:szR x 20) (x0:0<x) (f:Go.Ev.Fn CX 106 [.int .i64 kn,rv (x/2),.int .i64 p] (.tup [ballR l h,.bool true])) :
  Go.Ev.Fn CX 137 [distV 4 kn km sa na da sb nb db,rv x,.int .i64 p] (.tup [ballR l h,.bool true]):=by
 have hx:=RatA_rv zx;have bl:=dist_below hx (by omega) (by omega) 0;have ab:=dist_above hx (by omega) (by omega) 0;rw[show ((0:Int):Rat)=0 from rfl]at bl ab;rw[decide_eq_false (by grind)]at bl;rw[decide_eq_true x0]at ab;have i:=rat_Int 2;have ov:=dist_over hx (RatA_rv (int_szR (n:=2)));rw[show ((2:Int):Rat)=2 from rfl]at i ov;generalize x/2=y at *
 clear hx x0;refine fni Tryz.f137 ?_;unfold Tryz.f137;repeat (first|simp only[go_sem,xL]|simp (disch:=first|exact omg|fail) only[AX,xL]|refine wki ?_|refine vpd 3 [] ?_|refine vpd 11 [] ?_|refine vpd 13 [] ?_|refine vpd 15 [] ?_|refine vpd 17 [] ?_|refine vpd 18 [] ?_|refine vpd 24 [] ?_|refine vpd 26 [] ?_|refine vfa ?_)
theorem incg_D {Q:Nat} (zy:szR y 7) (hn:1<=n/\n<=16) (hQ:Q=32\/Q=64\/Q=128\/Q=200) (y0:0<y) (y1:y<=64) :
  ∃l h:Rat,Go.Ev.Fn CX 106 [.int .i64 (n:Int),rv y,.int .i64 (Q:Int)] (.tup [ballR l h,.bool true])/\szR l 500/\szR h 500/\(h-l)*p2 Q<=1/\LoI n y l/\HiI n y h:=by
 obtain⟨l,h,lo,hi,f,le,z1,z2,w,l0,lh,l1,l2,en⟩:=incg_P (n:=n) (pI:=(Q:Int)) (P:=Q) (RatA_rv (szR_mono zy (show 7<=240 by omega))) y0 y1 hn.1 (by omega) (.inr rfl);refine⟨l,h,f,szR_mono z1,szR_mono z2,w,⟨lo,hi,l0,lh,l1,l2,fun s q1 q2 => ?_⟩,⟨lo,hi,l0,lh,l1,l2,fun s q1 q2 => ?_⟩⟩
 ·obtain⟨L0,g⟩:=en s q1 q2;exact⟨L0,fun L hL=>(g L hL).1⟩
 ·obtain⟨L0,g⟩:=en s q1 q2;exact⟨L0,fun L hL=>(g L hL).2⟩
theorem rate_sz {N D J:Nat} (N0:0<N) (D0:0<D) (D2:D<18446744073709551616) (e:a*(D:Rat)=(N:Rat)) (hJ:J<=140) (h:Dz 0 N J x) (h0:0<=a*x) (h1:a*x<=64):szR (a*x) 7:=by
 obtain⟨Z,hz⟩:=h;have hp:2^J<=2^140:=xD (by omega) hJ;have hm:D*2^J<=18446744073709551616*2^140:=xO (by omega) hp;refine frac_sz (Z:=Z) (D:=D*2^J) (B:=64) ?_ (yu D0 (xK (by omega))) ⟨by grind,h1⟩;rw[show ((D*2^J:Nat):Rat)=(D:Rat)*p2 J by exact_mod_cast rfl,<- hz,<- e];generalize p2 J=P;grind
theorem rate_ends (a0:0<a) (hw : ¬a<mkRat 1 (2^20)):64/a<=0+134217728/\0<64/a/\a*(64/a)=64:=by
 have e:a*(64/a)=64:=Ex.mul_div _ 64 (by grind);have c:mkRat 1 (2^20)*1048576=1:=by decide +kernel
 generalize 64/a=u at *
 generalize mkRat 1 (2^20)=t at *
 have u0:0<u:=by
  refine wv.1 fun g => ?_
  have:=xB g (xG a0);grind
 have:=xA (show t<=a by grind) (xG u0);have k:t*u*1048576=u:=by grind
 exact⟨by grind,u0,e⟩
theorem rate_dz {N D:Nat} (e:a*(D:Rat)=(N:Rat)) (g:a*(64/a)=64) (a0:0<a):Dz 0 N 22 (64/a):=by
 refine⟨((64*D*2^22:Nat):Int),?_⟩;rw[<- e,zM,show ((64*D*2^22:Nat):Rat)=64*(D:Rat)*p2 22 by exact_mod_cast rfl];generalize 64/a=u at *
 generalize p2 22=P;grind
theorem fam_gamma (hA:RatA (ratV sa na da) a 2) (hB:RatA (ratV sb nb db) b 2) (hc:chkD 3 (n:Int) km a b=0) (hw:wideD 3 a b=false) (a0:0<a) (hn:1<=n/\n<=16) :
  ∃N D:Nat,(0<N/\0<D/\D<18446744073709551616/\a*(D:Rat)=(N:Rat))/\Fam (p2 200) (distV 3 (n:Int) km sa na da sb nb db) (LoG n a) (HiG n a) 0 N 0 (64/a):=by
 obtain⟨N,D,N0,D0,N1,D1,e⟩:=rat_parts (szR_of hA) a0;have hw' : ¬a<mkRat 1 (2^20):=of_decide_eq_false hw;obtain⟨g1,g2,g3⟩:=rate_ends a0 hw';refine⟨N,D,⟨N0,D0,D1,e⟩,fam_mk hA hB hc ⟨by omega,by omega⟩ hw (st_rate (.inr rfl) hA) N0 N1 (szR_zero) xN g1 g2 ⟨0,by rw[zg,xw];rfl⟩ (rate_dz e g3 a0) ?_⟩;rintro x ⟨J,hJ,hx⟩ zx x0 x1 Q hQ
 by_cases ex:x=0
 ·subst ex;exact⟨0,0,chance_zero,szR_zero,szR_zero,by rw[zg,xw];decide,.inl ⟨xN,rfl⟩,.inl ⟨xN,rfl⟩⟩
 have y0:0<x:=by grind
 have ax:=xt a0 y0;have ax1:=xB x1 (xG a0);rw[g3]at ax1;obtain⟨l,h,f,z1,z2,w,A,B⟩:=incg_D (Q:=Q) (rate_sz N0 D0 D1 e hJ hx (xG ax) ax1) hn hQ ax ax1;exact⟨l,h,chance_gamma hA zx y0 f,z1,z2,w,.inr ⟨y0,A⟩,.inr ⟨y0,B⟩⟩
theorem fam_chi (hA:RatA (ratV sa na da) a 2) (hB:RatA (ratV sb nb db) b 2) (hc:chkD 4 (n:Int) km a b=0) (hn:1<=n/\n<=16) :
  Fam (p2 200) (distV 4 (n:Int) km sa na da sb nb db) (LoG n (1/2)) (HiG n (1/2)) 0 1 0 128:=by
 refine fam_mk hA hB hc ⟨by omega,by omega⟩ rfl (st_fixed (lo:=0) (hi:=128)) (by omega) (by omega) (szR_zero) xN (by decide +kernel) (by decide +kernel) ⟨0,by decide +kernel⟩ ⟨536870912,by decide +kernel⟩ ?_;rintro x ⟨J,hJ,hx⟩ zx x0 x1 Q hQ
 by_cases ex:x=0
 ·subst ex;exact⟨0,0,chance_zero,szR_zero,szR_zero,by rw[zg,xw];decide,.inl ⟨xN,rfl⟩,.inl ⟨xN,rfl⟩⟩
 have y0:0<x:=by grind
 have h2:(1/2:Rat)*((2:Nat):Rat)=((1:Nat):Rat):=by decide +kernel
 have ax:=xt (show (0:Rat)<1/2 by decide +kernel) y0;have ax1:1/2*x<=64:=by
  rw[show ((2:Nat):Rat)=2 from rfl,show ((1:Nat):Rat)=1 from rfl]at h2;generalize (1/2:Rat)=c at *
  have k:c*x*2=x:=by grind
  grind
 obtain⟨l,h,f,z1,z2,w,A,B⟩:=incg_D (Q:=Q) (rate_sz (a:=1/2) (N:=1) (D:=2) (by omega) (by omega) (by omega) h2 hJ hx (xG ax) ax1) hn hQ ax ax1;refine⟨l,h,chance_chi zx y0 ?_,z1,z2,w,.inr ⟨y0,A⟩,.inr ⟨y0,B⟩⟩;have e:x/2=1/2*x:=by rw[xk,xk,xc,ya]
 rw[e];exact f
end
end Go.Proofs.YtfknkoeagjonbaaGreat
namespace Go.Proofs.YtfknkoeagjonbaaGreat
open Go.Ev
section
variable {n m:Int} {sa sb:Bool} {na da nb db:List Nat} {a b:Rat} {x y z l h:Rat} {v:SV} {p:Int}
def LoE (a:Rat):Tells:=fun x l=>(x<=0/\l=0)\/(0<x /\ ∃s:Nat,∀L,s<=L->l<=1-evX (-(a*x)) L)
def HiE (a:Rat):Tells:=fun x h=>(x<=0/\h=0)\/(0<x /\ ∃s:Nat,∀L,s<=L->1-evX (-(a*x)) L<=h)
theorem exp_D {Q:Nat} (hz:szR z 7) (h0:0<z) (h1:z<=64) (hQ:Q<=200:=by omega) : ∃l h:Rat,Go.Ev.Fn CX 162 [rv (-z),.int .i64 (Q:Int)] (.tup [ballR l h,.bool true])/\szR l 400/\szR h 400/\(h-l)*p2 Q<=1 /\ ∃s0,∀L,s0<=L->l<=evX (-z) L/\evX (-z) L<=h:=by
 have zn:=szR_neg hz;obtain⟨m,lm,fn,s0,hs⟩:=exps_Exp (P:=Q) (pI:=(Q:Int)) (RatA_rv zn) (by omega) (by omega) (by grind) (by grind) (by grind) (den_le zn) (by omega) (.inr rfl);have W:=p2_pos Q;have hm:m<=2^Q:=by
  have e:=(hs (s0+1) (by omega)).1;have k:=xE e (xA (ev_le1 (z := -z) (by grind) (show 1<=s0+1 by omega)).1 (xG W));rw[xc]at k;exact_mod_cast k
 have lp:=lim_len_pw (n:=2^Q) (w:=Q+1) (by rw[xU];have:0<2^Q:=xK (by omega);omega);have lm2:=lim_len_pw (n:=m+1) (w:=Q+2) (by rw[xM];have:0<2^Q:=xK (by omega);omega);have lm1:(lim m).length<=(lim (m+1)).length:=lim_len_mono (yg m);refine⟨_,_,fn,szR_nat,szR_nat,?_,s0,fun L hL => ?_⟩
 ·have c:((m+1:Nat):Rat)=(m:Rat)+1:=by exact_mod_cast rfl
  have e : ∀u v w:Rat,(u-v)*w=u*w-v*w:=by intro u v w;grind
  rw[e,mk_p2,mk_p2,c];grind
 ·obtain⟨g1,g2⟩:=hs L hL;constructor
  ·refine le_by W ?_;rw[mk_p2];exact g1
  ·refine le_by W ?_;rw[mk_p2];exact g2
theorem fam_expo (hA:RatA (ratV sa na da) a 2) (hB:RatA (ratV sb nb db) b 2) (hc:chkD 2 n m a b=0) (hw:wideD 2 a b=false) (a0:0<a) :
  ∃W,Fam (p2 200) (distV 2 n m sa na da sb nb db) (LoE a) (HiE a) 0 W 0 (64/a):=by
 obtain⟨N,D,N0,D0,N1,D1,e⟩:=rat_parts (szR_of hA) a0;have hw' : ¬a<mkRat 1 (2^20):=of_decide_eq_false hw;obtain⟨g1,g2,g3⟩:=rate_ends a0 hw';refine⟨N,fam_mk hA hB hc ⟨by omega,by omega⟩ hw (st_rate (.inl rfl) hA) N0 N1 (szR_zero) xN g1 g2 ⟨0,by rw[zg,xw];rfl⟩ (rate_dz e g3 a0) ?_⟩;rintro x ⟨J,hJ,hx⟩ zx x0 x1 Q hQ
 by_cases ex:x=0
 ·subst ex;exact⟨0,0,chance_zero,szR_zero,szR_zero,by rw[zg,xw];decide,.inl ⟨xN,rfl⟩,.inl ⟨xN,rfl⟩⟩
 have y0:0<x:=by grind
 have ax:=xt a0 y0;have ax1:=xB x1 (xG a0);rw[g3]at ax1;obtain⟨l,h,f,z1,z2,w,s,en⟩:=exp_D (Q:=Q) (rate_sz N0 D0 D1 e hJ hx (xG ax) ax1) ax ax1;refine⟨1-h,1-l,chance_expo hA (by omega) (by omega) (RatA_rv zx) (by omega) (by omega) y0 z1 z2 f,szR_mono (szR_sub unit_len z2),szR_mono (szR_sub unit_len z1),?_,.inr ⟨y0,s,fun L hL => ?_⟩,.inr ⟨y0,s,fun L hL => ?_⟩⟩
 ·rw[show 1-l-(1-h)=h-l by grind];exact w
 ·have:=(en L hL).2;grind
 ·have:=(en L hL).1;grind
theorem phi_D {Q:Nat} (hz:szR z 7) (h1 : -8<=z) (h8:z<=8) (hQ:Q=32\/Q=64\/Q=128\/Q=200) :
  ∃l h:Rat,Go.Ev.Fn CX 206 [rv z,.int .i64 (Q:Int)] (.tup [ballR l h,.bool true])/\szR l 500/\szR h 500/\(h-l)*p2 Q<=1/\LoN z l/\HiN z h:=by
 by_cases e:z=0
 ·subst e;refine⟨1/2,1/2,bell_Phi0 (RatA_rv (szR_zero)),szR_mono hlf_len,szR_mono hlf_len,?_,.inl ⟨rfl,rfl⟩,.inl ⟨rfl,rfl⟩⟩;rw[zg,xw];decide
 rcases zC (a:=0) (b:=z) with g|g
 ·obtain⟨l,h,r1,r2,t1,t2,t3,w,k1,k2,k3,k4,kk,f1,f2⟩:=bell_PhiG (pI:=(Q:Int)) hz (by grind) h8 (.inr rfl);have R:RtP r1 r2:=⟨k1,k2,k3,k4⟩
  refine⟨_,_,f1 _ (RatA_rv hz),szR_mono (szR_add hlf_len t2),szR_mono (szR_add hlf_len t3),?_,.inr (.inl ⟨by grind,r1,r2,R,?_⟩),.inr (.inl ⟨by grind,r1,r2,R,?_⟩)⟩
  ·generalize (1/2:Rat)=c;rw[show c+h-(c+l)=h-l by grind];exact w
  ·intro r i1 i2;obtain⟨s,hs⟩:=kk r i1 i2;refine⟨s,fun L hL => ?_⟩;have:=(hs L hL).1;generalize (1/2:Rat)=c;grind
  ·intro r i1 i2;obtain⟨s,hs⟩:=kk r i1 i2;refine⟨s,fun L hL => ?_⟩;have:=(hs L hL).2;generalize (1/2:Rat)=c;grind
 ·have zn:=szR_neg hz;obtain⟨l,h,r1,r2,t1,t2,t3,w,k1,k2,k3,k4,kk,f1,f2⟩:=bell_PhiG (z := -z) (pI:=(Q:Int)) zn (by grind) (by grind) (.inr rfl);have hv':RatA (rv z) (- -z) 7:=by rw[Rat.neg_neg];exact RatA_rv hz
  have R:RtP r1 r2:=⟨k1,k2,k3,k4⟩
  refine⟨_,_,f2 _ hv',szR_mono (szR_add hlf_len (szR_neg t3)),szR_mono (szR_add hlf_len (szR_neg t2)),?_,.inr (.inr ⟨by grind,r1,r2,R,?_⟩),.inr (.inr ⟨by grind,r1,r2,R,?_⟩)⟩
  ·generalize (1/2:Rat)=c;rw[show c + -l-(c + -h)=h-l by grind];exact w
  ·intro r i1 i2;obtain⟨s,hs⟩:=kk r i1 i2;refine⟨s,fun L hL => ?_⟩;have:=(hs L hL).2;generalize (1/2:Rat)=c;grind
  ·intro r i1 i2;obtain⟨s,hs⟩:=kk r i1 i2;refine⟨s,fun L hL => ?_⟩;have:=(hs L hL).1;generalize (1/2:Rat)=c;grind
def LoW (a b:Rat):Tells:=fun x l=>LoN ((x-a)/b) l
def HiW (a b:Rat):Tells:=fun x h=>HiN ((x-a)/b) h
theorem div_ends (b0:0<b) (h1:a-8*b<=x) (h2:x<=a+8*b) : -8<=(x-a)/b/\(x-a)/b<=8/\(x-a)/b*b=x-a:=by
 have e:(x-a)/b*b=x-a:=xd (by grind);generalize (x-a)/b=z at *
 refine⟨?_,?_,e⟩
 ·refine le_by b0 ?_;rw[e];grind
 ·refine le_by b0 ?_;rw[e];grind
theorem norm_sz {N D J:Nat} (N0:0<N) (N1:N<18446744073709551616) (e:b*(D:Rat)=(N:Rat)) (hJ:J<=140) (h:Dz (a-8*b) D J x) (g1 : -8<=(x-a)/b) (g2:(x-a)/b<=8) (g3:(x-a)/b*b=x-a):szR ((x-a)/b) 7:=by
 obtain⟨Z,hZ⟩:=h;have hp:2^J<=2^140:=xD (by omega) hJ;have hm:N*2^J<=18446744073709551616*2^140:=xO (by omega) hp;refine frac_sz (Z:=Z-((8*(N*2^J):Nat):Int)) (D:=N*2^J) (B:=8) ?_ (yu N0 (xK (by omega))) ⟨by grind,g2⟩;rw[Rat.intCast_sub,zM,<- hZ,show ((8*(N*2^J):Nat):Rat)=8*((N:Rat)*p2 J) by exact_mod_cast rfl,show ((N*2^J:Nat):Rat)=(N:Rat)*p2 J by exact_mod_cast rfl,<- e];generalize (x-a)/b=z at *
 generalize p2 J=P;grind
theorem fam_normal (hA:RatA (ratV sa na da) a 2) (hB:RatA (ratV sb nb db) b 2) (hc:chkD 1 n m a b=0) (hw:wideD 1 a b=false) (b0:0<b) :
  ∃N D:Nat,(0<N/\0<D/\N<18446744073709551616/\D<18446744073709551616/\b*(D:Rat)=(N:Rat))/\Fam (p2 200) (distV 1 n m sa na da sb nb db) (LoW a b) (HiW a b) (a-8*b) D (a-8*b) (a+8*b):=by
 obtain⟨N,D,N0,D0,N1,D1,e⟩:=rat_parts (szR_of hB) b0;have hw' : ¬1048576<b:=of_decide_eq_false hw;have z8:szR 8 1:=⟨lim_len_lt (by decide +kernel),lim_len_lt (by decide +kernel)⟩
 refine⟨N,D,⟨N0,D0,N1,D1,e⟩,fam_mk hA hB hc ⟨by omega,by omega⟩ hw (st_normal hA hB) D0 D1 (szR_mono (szR_sub (szR_of hA) (szR_mul z8 (szR_of hB)))) xN (by grind) (by grind) ⟨0,by rw[zg,xw];rfl⟩ ?_ ?_⟩
 ·refine⟨((16*N*2^22:Nat):Int),?_⟩;rw[zM,show ((16*N*2^22:Nat):Rat)=16*(N:Rat)*p2 22 by exact_mod_cast rfl,<- e];generalize p2 22=P;grind
 rintro x ⟨J,hJ,hZ⟩ zx x0 x1 Q hQ
 obtain⟨g1,g2,g3⟩:=div_ends b0 x0 x1;have hz:=norm_sz N0 N1 e hJ hZ g1 g2 g3;obtain⟨l,h,f,z1,z2,w,A,B⟩:=phi_D (Q:=Q) hz g1 g2 hQ;exact⟨l,h,chance_normal hA hB (by omega) (by omega) (RatA_rv zx) (by omega) (by omega) f,z1,z2,w,A,B⟩
end
end Go.Proofs.YtfknkoeagjonbaaGreat
namespace Go.Proofs.YtfknkoeagjonbaaGreat
open Go.Ev
end Go.Proofs.YtfknkoeagjonbaaGreat
namespace Go.Proofs.YtfknkoeagjonbaaGreat
open Go.Ev
end Go.Proofs.YtfknkoeagjonbaaGreat
namespace Go.Proofs.YtfknkoeagjonbaaGreat
open Go.Ev
end Go.Proofs.YtfknkoeagjonbaaGreat
namespace Go.Proofs.YtfknkoeagjonbaaGreat
open Go.Ev
end Go.Proofs.YtfknkoeagjonbaaGreat
namespace Go.Proofs.YtfknkoeagjonbaaGreat
open Go.Ev
section
variable {k n m:Int} {sa sb sq:Bool} {na da nb db nq dq:List Nat} {a b q:Rat} {L:Nat}
end
end Go.Proofs.YtfknkoeagjonbaaGreat
namespace Go.Proofs.YtfknkoeagjonbaaGreat
open Go.Ev
theorem ts_dist:fieldTs Tryz.prog 26=[3,3,3,24,24]:=by kernel_rfl
theorem shp_dist {l:Nat} {ss:List SV} (h:ShpT Tryz.prog (l+4) 26 ss) : ∃k n m sa na da sb nb db,SV.agg ss=distV k n m sa na da sb nb db/\(Lit.int .i64 k).wf=true/\(Lit.int .i64 n).wf=true/\(Lit.int .i64 m).wf=true/\okL na/\okL da/\okL nb/\okL db:=by
 obtain⟨parts,rfl,hl,hp⟩:=shp_struct ts_dist (by simp) h;obtain⟨a,b,c,d,e,rfl⟩:=len_five hl;obtain⟨k,rfl,w0⟩:=shp_int (hp 0 _ a rfl rfl);obtain⟨n,rfl,w1⟩:=shp_int (hp 1 _ b rfl rfl);obtain⟨m,rfl,w2⟩:=shp_int (hp 2 _ c rfl rfl);obtain⟨sa,na,da,rfl,h1,h2,-,-⟩:=shp_rat (hp 3 _ d rfl rfl);obtain⟨sb,nb,db,rfl,h3,h4,-,-⟩:=shp_rat (hp 4 _ e rfl rfl);exact⟨k,n,m,sa,na,da,sb,nb,db,rfl,w0,w1,w2,h1,h2,h3,h4⟩
end Go.Proofs.YtfknkoeagjonbaaGreat
namespace Go.Proofs.YtfknkoeagjonbaaGreat
open Go.Ev
section
variable {k n m:Int} {sa sb sq:Bool} {na da nb db nq dq:List Nat} {a b q:Rat} {L:Nat}
end
theorem known15_fn:Go.Ev.Fn CX 9 [] (.bool true):=says_fn (n:=80) (by kernel_rfl)
section
variable {k n m:Int} {sa sb:Bool} {na da nb db:List Nat}
end
section
variable {N K:Nat} {sa sq:Bool} {na da nq dq:List Nat} {a q:Rat}
end
end Go.Proofs.YtfknkoeagjonbaaGreat
namespace Go.Proofs.YtfknkoeagjonbaaGreat
open Go.Ev
def fstD (k n m:Int) (a b q:Rat):Int:=if chkD k n m a b≠0 then chkD k n m a b else if cntD k n m a b then 1 else if q<=0\/1<=q then 4 else if wideD k a b then 7 else 0
section
variable {k n m:Int} {sa sb:Bool} {na da nb db:List Nat} {a b q:Rat} {x y l h:Rat} {v:SV} {p:Int}
theorem ref15_wild (hA:RatA (ratV sa na da) a 2) (hB:RatA (ratV sb nb db) b 2):Go.Ev.Fn CX 38 [distV k n m sa na da sb nb db] (.bool (wideD k a b)):=by
 have i:=ref2_Int 1048576;have c:=ref2_Cmp hB (RatA_rv (int_szR (n:=1048576)));have e:decide (cmpR b ((1048576:Int):Rat)>0)=decide (1048576<b):=cmpR_gt;have bt:=ref4_Bit (p:=20);have c2:=ref2_Cmp hA (RatA_rv bit20_sz);have e2:decide (cmpR a (mkRat 1 (2^20))<0)=decide (a<mkRat 1 (2^20)):=cmpR_lt;generalize cmpR b ((1048576:Int):Rat)=y1 at *
 generalize hy:mkRat 1 (2^20)=y2 at *
 generalize cmpR a y2=y3 at *
 unfold wideD;rw[hy];clear hA hB hy;by_cases k1:k=1
 ·subst k1;rw[if_pos rfl];refine fni Tryz.f38 ?_;unfold Tryz.f38;repeat (first|simp only[go_sem,e]|simp (disch:=first|exact omg|fail) only[AX,e]|refine wki ?_|refine vpd 3 [] ?_|refine vpd 6 [] ?_|refine vfa ?_)
 by_cases k2:k=2
 ·subst k2;rw[if_neg (by omega),if_pos (by omega)];refine fni Tryz.f38 ?_;unfold Tryz.f38;repeat (first|simp only[go_sem,e2]|simp (disch:=first|exact omg|fail) only[AX,e2]|refine wki ?_|refine vpd 3 [] ?_|refine vpd 6 [] ?_|refine vfa ?_)
 by_cases k3:k=3
 ·subst k3;rw[if_neg (by omega),if_pos (by omega)];refine fni Tryz.f38 ?_;unfold Tryz.f38;repeat (first|simp only[go_sem,e2]|simp (disch:=first|exact omg|fail) only[AX,e2]|refine wki ?_|refine vpd 3 [] ?_|refine vpd 6 [] ?_|refine vfa ?_)
 rw[if_neg k1,if_neg (by omega)];refine fni Tryz.f38 ?_;unfold Tryz.f38;repeat (first|simp only[go_sem]|simp (disch:=first|exact omg|fail) only[AX]|refine wki ?_|refine vpd 3 [] ?_|refine vpd 6 [] ?_)
theorem ref15_First (hA:RatA (ratV sa na da) a 2) (hB:RatA (ratV sb nb db) b 2) (hq:RatA v q 1):Go.Ev.Fn CX 8 [distV k n m sa na da sb nb db,v] (.int .i64 (fstD k n m a b q)):=by
 have ck:=ref14_Check (k:=k) (n:=n) (m:=m) hA hB;have ct:=ref14_Counts (k:=k) (n:=n) (m:=m) hA hB;have iw:=ref15_wild (k:=k) (n:=n) (m:=m) hA hB;have i0:=ref2_Int 0;have i1:=ref2_Int 1;have d0:=ref2_Cmp hq (RatA_rv (int_szR (n:=0)));have d1:=ref2_Cmp hq (RatA_rv (int_szR (n:=1)));have e0:=cmpR_le (q:=q) (r:=((0:Int):Rat));have e1:=cmpR_ge (q:=q) (r:=((1:Int):Rat));have k0:((0:Int):Rat)=0:=rfl;have k1:((1:Int):Rat)=1:=rfl;rw[k0]at i0 d0 e0;rw[k1]at i1 d1 e1;clear hA hB;obtain⟨sq,nq,dq,rfl,-⟩:=hq;unfold fstD;generalize chkD k n m a b=c at *
 generalize cntD k n m a b=t at *
 generalize wideD k a b=w at *
 by_cases hc:c=0
 ·rw[if_neg (not_not_intro hc)];cases t
  ·by_cases g0:q<=0
   ·rw[if_neg (by decide),if_pos (.inl g0)];rw[decide_eq_true g0]at e0;clear g0;refine fni Tryz.f8 ?_;unfold Tryz.f8;repeat (first|simp only[go_sem,e0]|simp (disch:=first|exact omg|fail) only[AX,e0]|refine wki ?_|refine vpd 6 [] ?_|refine vfa ?_)
   ·rw[decide_eq_false g0]at e0;by_cases g1:1<=q
    ·rw[if_neg (by decide),if_pos (.inr g1)];rw[decide_eq_true g1]at e1;clear g0 g1;refine fni Tryz.f8 ?_;unfold Tryz.f8;repeat (first|simp only[go_sem,e0,e1]|simp (disch:=first|exact omg|fail) only[AX,e0,e1]|refine wki ?_|refine vpd 6 [] ?_|refine vfa ?_)
    ·rw[if_neg (by decide),if_neg (fun o=>o.elim g0 g1)];rw[decide_eq_false g1]at e1;clear g0 g1;cases w
     ·refine fni Tryz.f8 ?_;unfold Tryz.f8;repeat (first|simp only[go_sem,e0,e1]|simp (disch:=first|exact omg|fail) only[AX,e0,e1]|refine wki ?_|refine vpd 6 [] ?_|refine vfa ?_)
     ·refine fni Tryz.f8 ?_;unfold Tryz.f8;repeat (first|simp only[go_sem,e0,e1]|simp (disch:=first|exact omg|fail) only[AX,e0,e1]|refine wki ?_|refine vpd 6 [] ?_|refine vfa ?_)
  ·refine fni Tryz.f8 ?_;unfold Tryz.f8;repeat (first|simp only[go_sem]|simp (disch:=first|exact omg|fail) only[AX]|refine wki ?_|refine vpd 6 [] ?_|refine vfa ?_)
 ·rw[if_pos hc];refine fni Tryz.f8 ?_;unfold Tryz.f8;repeat (first|simp only[go_sem]|simp (disch:=first|exact omg|fail) only[AX]|refine wki ?_|refine vpd 6 [] ?_|refine vfa ?_)
theorem of_err (hA:RatA (ratV sa na da) a 2) (hB:RatA (ratV sb nb db) b 2) (hq:RatA v q 1) (h:fstD k n m a b q≠0):Go.Ev.Fn CX 7 [distV k n m sa na da sb nb db,v,.int .i64 p] (.tup [noB,.int .i64 (fstD k n m a b q)]):=by
 have ck:=dist_Check (k:=k) (n:=n) (m:=m) hA hB;have ct:=dist_Counts (k:=k) (n:=n) (m:=m) hA hB;have iw:=quant_isWide (k:=k) (n:=n) (m:=m) hA hB;have i0:=rat_Int 0;have i1:=rat_Int 1;have d0:=rat_Cmp hq (RatA_rv (int_szR (n:=0)));have d1:=rat_Cmp hq (RatA_rv (int_szR (n:=1)));have e0:=cmpR_le (q:=q) (r:=((0:Int):Rat));have e1:=cmpR_ge (q:=q) (r:=((1:Int):Rat));have k0:((0:Int):Rat)=0:=rfl;have k1:((1:Int):Rat)=1:=rfl;rw[k0]at i0 d0 e0;rw[k1]at i1 d1 e1;clear hA hB;obtain⟨sq,nq,dq,rfl,-⟩:=hq;unfold fstD at h ⊢;generalize chkD k n m a b=c at *
 generalize cntD k n m a b=t at *
 generalize wideD k a b=w at *
 by_cases hc:c=0
 ·rw[if_neg (not_not_intro hc)]at h ⊢;cases t
  ·by_cases g0:q<=0
   ·rw[if_neg (by decide),if_pos (.inl g0)];rw[decide_eq_true g0]at e0;clear g0 h;refine fni Tryz.f7 ?_;unfold Tryz.f7;repeat (first|simp only[go_sem,e0]|simp (disch:=first|exact omg|fail) only[AX,e0]|refine wki ?_|refine vpd 6 [] ?_|refine vpd 11 [] ?_|refine vpd 14 [] ?_|refine vfa ?_)
   ·rw[decide_eq_false g0]at e0;by_cases g1:1<=q
    ·rw[if_neg (by decide),if_pos (.inr g1)];rw[decide_eq_true g1]at e1;clear g0 g1 h;refine fni Tryz.f7 ?_;unfold Tryz.f7;repeat (first|simp only[go_sem,e0,e1]|simp (disch:=first|exact omg|fail) only[AX,e0,e1]|refine wki ?_|refine vpd 6 [] ?_|refine vpd 11 [] ?_|refine vpd 14 [] ?_|refine vfa ?_)
    ·rw[if_neg (by decide),if_neg (fun o=>o.elim g0 g1)]at h ⊢;rw[decide_eq_false g1]at e1;clear g0 g1;cases w
     ·exact absurd rfl h
     ·clear h;refine fni Tryz.f7 ?_;unfold Tryz.f7;repeat (first|simp only[go_sem,e0,e1]|simp (disch:=first|exact omg|fail) only[AX,e0,e1]|refine wki ?_|refine vpd 6 [] ?_|refine vpd 11 [] ?_|refine vpd 14 [] ?_|refine vfa ?_)
  ·clear h;refine fni Tryz.f7 ?_;unfold Tryz.f7;repeat (first|simp only[go_sem]|simp (disch:=first|exact omg|fail) only[AX]|refine wki ?_|refine vpd 6 [] ?_|refine vpd 11 [] ?_|refine vpd 14 [] ?_|refine vfa ?_)
 ·rw[if_pos hc];clear h;refine fni Tryz.f7 ?_;unfold Tryz.f7;repeat (first|simp only[go_sem]|simp (disch:=first|exact omg|fail) only[AX]|refine wki ?_|refine vpd 6 [] ?_|refine vpd 11 [] ?_|refine vpd 14 [] ?_|refine vfa ?_)
theorem fst_zero (h:fstD k n m a b q=0):chkD k n m a b=0/\cntD k n m a b=false/\0<q/\q<1/\wideD k a b=false:=by
 unfold fstD at h;by_cases h1:chkD k n m a b=0
 ·rw[if_neg (not_not_intro h1)]at h;cases h2:cntD k n m a b
  ·rw[h2,if_neg (by decide)]at h;by_cases h3:q<=0\/1<=q
   ·rw[if_pos h3]at h;omega
   ·rw[if_neg h3]at h;cases h4:wideD k a b
    ·exact⟨h1,rfl,by grind,by grind,rfl⟩
    ·rw[h4]at h;exact absurd h (by decide)
  ·rw[h2,if_pos rfl]at h;omega
 ·rw[if_pos h1]at h;exact absurd h h1
end
end Go.Proofs.YtfknkoeagjonbaaGreat
namespace Go.Proofs.YtfknkoeagjonbaaGreat
open Go.Ev
section
variable {a b w p L:Nat} {x:Rat} {v:SV}
theorem core_sq (hv:RatA v x L) (hL1:1<=L) (hL:L<=260) (ha:1<=a) (ha2:a<=22) (hb:1<=b) (hb2:b<=22) (h0:0<=x) (h1:x+x<=1) (hw0:40<=w:=by omega) (hw:w<=200:=by omega) :
  ∃A B:Nat,Go.Ev.Fn CX 120 [.int .i64 (a:Int),.int .i64 (b:Int),v,.int .i64 (w:Int)] (ivN A B)/\A<=B/\B<=2^(w+400)/\RowS a b w x A B:=by
 obtain⟨A,B,K,p1,p2',q1,q2,f,g1,g2,r1,r3,r2,r4,r5,r7,r6,r8,en⟩:=ref12_core (w:=w) hv hL1 hL ha ha2 hb hb2 h0 h1 hw0 hw;refine⟨A,B,f,g1,g2,K,fun m hm => ?_⟩;have hx1:x<=1:=by clear g2;grind
 have s1:=sq_mon r1 r2 (xE r3 r4);have s2:=sq_mon r5 r6 (xE r7 r8);have e1:=en p1 q1 xN s1 xN s2 m hm;have e2:=en p2' q2 s1 xN s2 xN m hm;have lo:=sh_lo (a:=a) (b:=b) (k:=m) h0 hx1 r3 r7;have hi:=sh_hi (a:=a) (b:=b) (k:=m) h0 hx1 r4 r8;have P:=p2_pos w;have PP:=mul_self_nn (p2 w);have A1:(A:Rat)<=fstR a b x p1 q1*sR x a b m*p2 w:=e1.1;have B1:fstR a b x p2' q2*sR x a b m*p2 w<=(B:Rat):=e2.2;have n1:0<=fstR a b x p1 q1*sR x a b m*p2 w:=xE (nat_nonneg A) A1;have n2:0<=fstR a b x p2' q2*sR x a b m*p2 w:=xE (nat_nonneg A) e2.1;have A2:=mul_both A1 A1 n1 (nat_nonneg A)
 have B2:=mul_both B1 B1 (nat_nonneg B) n2;have lo2:=xA lo PP;have hi2:=xA hi PP;rw[sq_pair]at A2 B2;exact⟨xE A2 lo2,xE hi2 B2⟩
theorem rowS_Lo1 {A B:Nat} (rs:RowS a b w x A B):Lo1 a b x (mkRat (A:Int) (2^w)):=by
 obtain⟨K,hK⟩:=rs;refine .inr ⟨K,fun m hm => ?_⟩;have g:=(hK m hm).1;have P:=p2_pos w;have t:=mk_p2n A w;refine le_by (xt P P) ?_;rw[<- t]at g;generalize mkRat (A:Int) (2^w)=u at *
 generalize p2 w=q at *
 have e:u*u*(q*q)=u*q*(u*q):=by grind
 rw[e];exact g
theorem rowS_Hi1 {A B:Nat} (rs:RowS a b w x A B):Hi1 a b x (mkRat (B:Int) (2^w)):=by
 obtain⟨K,hK⟩:=rs;have P:=p2_pos w;have t:=mk_p2n B w;refine⟨le_by P (by rw[t,xw];exact nat_nonneg _),K,fun m hm => ?_⟩;have g:=(hK m hm).2;refine le_by (xt P P) ?_;rw[<- t]at g;generalize mkRat (B:Int) (2^w)=u at *
 generalize p2 w=q at *
 have e:u*u*(q*q)=u*q*(u*q):=by grind
 rw[e];exact g
theorem one_less (B w:Nat):1-mkRat (((2^w:Nat):Int)-(B:Int)) (2^w)=mkRat (B:Int) (2^w):=by
 have P:=p2_pos w;have m1:=mk_mulP (((2^w:Nat):Int)-(B:Int)) (b:=2^w) (xK (by omega));have m2:=mk_p2n B w;have c:((((2^w:Nat):Int)-(B:Int):Int):Rat)=p2 w-(B:Rat):=by
  rw[Rat.intCast_sub];rfl
 have m1':mkRat (((2^w:Nat):Int)-(B:Int)) (2^w)*p2 w=p2 w-(B:Rat):=by rw[<- c];exact m1
 generalize mkRat (((2^w:Nat):Int)-(B:Int)) (2^w)=u at *
 generalize mkRat (B:Int) (2^w)=z at *
 have k:(1-u)*p2 w=z*p2 w:=by grind
 exact Rat.le_antisymm (le_by P (by rw[k];exact xN)) (le_by P (by rw[k];exact xN))
theorem szR_zi {z:Int} {w e:Nat} (h:z.natAbs<=2^e) (he:e<=1000:=by omega) (hw:w<=1000:=by omega):szR (mkRat z (2^w)) 40:=by
 have e1:=szR_mk (s:=decide (z<0)) (n:=z.natAbs) (d:=2^w) (lim_len_p2 h he) (lim_len_p2 (xQ _) hw);rwa [sgn_self]at e1
theorem szR_less {B p:Nat} (h:B<=2^(p+40+400)) (hp:p<=200:=by omega):szR (mkRat (((2^(p+40):Nat):Int)-(B:Int)) (2^(p+40))) 40:=by
 have m:2^(p+40)<=2^(p+40+400):=xD (by omega) (by omega);generalize hE:2^(p+40)=E at *
 have hz:((E:Int)-(B:Int)).natAbs<=2^(p+40+400):=by omega
 rw[<- hE]at hz ⊢;exact szR_zi hz
theorem ref12_ballW (hv:RatA v x L) (hL1:1<=L) (hL:L<=245) (ha:1<=a) (ha2:a<=22) (hb:1<=b) (hb2:b<=22) (hp:p<=160) (h0:0<x) (h1:x<1) :
  ∃l h:Rat,Go.Ev.Fn CX 62 [.int .i64 (a:Int),.int .i64 (b:Int),v,.int .i64 ((p:Int)+20)] (.tup [ballR l h,.bool true])/\szR l 40/\szR h 40/\LoS a b x l/\HiS a b x h:=by
 have zx:=szR_of hv hL1;have one1:szR 1 1:=⟨lim_len_lt (by decide +kernel),lim_len_lt (by decide +kernel)⟩
 by_cases hh:x+x<=1
 ·obtain⟨A,B,f,g1,g2,rs⟩:=core_sq (w:=p+40) hv hL1 (by omega) ha ha2 hb hb2 (xG h0) hh;have lB:=lim_len_p2 g2;have lA:=lim_len_mono g1;exact⟨_,_,ref12_I_lo hv hL1 (by omega) ha ha2 hb hb2 (by omega) h0 hh f,szR_zi (z:=(A:Int)) (xH g1 g2),szR_zi (z:=(B:Int)) g2,.inl ⟨hh,rowS_Lo1 rs⟩,.inl ⟨hh,rowS_Hi1 rs⟩⟩
 ·have zy:=szR_sub one1 zx;have hh':1<x+x:=by grind
  obtain⟨A,B,f,g1,g2,rs⟩:=core_sq (x:=1-x) (w:=p+40) (RatA_rv zy) (by omega) (by omega) hb hb2 ha ha2 (by grind) (by grind);have lB:=lim_len_p2 g2;have lA:=lim_len_mono g1;have gA:=xH g1 g2;exact⟨_,_,ref12_I_hi hv hL1 (by omega) ha ha2 hb hb2 (by omega) hh' h1 f,szR_less g2,szR_less gA,.inr ⟨hh',by rw[one_less];exact rowS_Hi1 rs⟩,.inr ⟨hh',by rw[one_less];exact rowS_Lo1 rs⟩⟩
end
end Go.Proofs.YtfknkoeagjonbaaGreat
namespace Go.Proofs.YtfknkoeagjonbaaGreat
open Go.Ev
section
variable {a b l h:Rat} {L:Nat}
theorem ref4_low (ha:szR a L) (hb:szR b L) (hL1:1<=L:=by omega) (hL:L<=100000:=by omega):Go.Ev.Fn CX 216 [rv a,rv b] (rv (if a<=b then a else b)):=by
 have c:=ref2_Cmp (RatA_rv ha) (RatA_rv hb) hL1 hL1;have e:=cmpR_le (q:=a) (r:=b);clear ha hb;generalize cmpR a b=z at *
 by_cases g:a<=b
 ·rw[decide_eq_true g]at e;rw[if_pos g];clear g;refine fni Tryz.f216 ?_;unfold Tryz.f216;repeat (first|simp only[go_sem,e]|simp (disch:=first|exact omg|fail) only[AX,e]|refine wki ?_|refine vfa ?_)
 ·rw[decide_eq_false g]at e;rw[if_neg g];clear g;refine fni Tryz.f216 ?_;unfold Tryz.f216;repeat (first|simp only[go_sem,e]|simp (disch:=first|exact omg|fail) only[AX,e]|refine wki ?_|refine vfa ?_)
theorem ref4_high (ha:szR a L) (hb:szR b L) (hL1:1<=L:=by omega) (hL:L<=100000:=by omega):Go.Ev.Fn CX 217 [rv a,rv b] (rv (if b<=a then a else b)):=by
 have c:=ref2_Cmp (RatA_rv ha) (RatA_rv hb) hL1 hL1;have e:=cmpR_ge (q:=a) (r:=b);clear ha hb;generalize cmpR a b=z at *
 by_cases g:b<=a
 ·rw[decide_eq_true g]at e;rw[if_pos g];clear g;refine fni Tryz.f217 ?_;unfold Tryz.f217;repeat (first|simp only[go_sem,e]|simp (disch:=first|exact omg|fail) only[AX,e]|refine wki ?_|refine vfa ?_)
 ·rw[decide_eq_false g]at e;rw[if_neg g];clear g;refine fni Tryz.f217 ?_;unfold Tryz.f217;repeat (first|simp only[go_sem,e]|simp (disch:=first|exact omg|fail) only[AX,e]|refine wki ?_|refine vfa ?_)
set_option maxHeartbeats 2000000 in
theorem ref4_MulH (zl:szR l 300) (zh:szR h 300) (g:l<=h):Go.Ev.Fn CX 145 [ballR l h,ballR (1/2) (1/2)] (ballR (l*(1/2)) (h*(1/2))):=by
 have m1:=ref2_Mul (RatA_rv zl) (RatA_rv hfQ_len);have m2:=ref2_Mul (RatA_rv zh) (RatA_rv hfQ_len);have w1:=szR_mul zl hfQ_len;have w2:=szR_mul zh hfQ_len;have le:=xA g (show (0:Rat)<=1/2 by decide +kernel);clear g zl zh;generalize l*(1/2)=u at *
 generalize h*(1/2)=v at *
 generalize (1/2:Rat)=hf at *
 have l1:=ref4_low w1 w1;have l2:=ref4_low w1 w2;have h1:=ref4_high w1 w1;have h2:=ref4_high w1 w2;have h3:=ref4_high w2 w2;rw[if_pos xN]at l1 h1 h3;rw[if_pos le]at l2;have h2':Go.Ev.Fn CX 217 [rv u,rv v] (rv v):=by
  by_cases k:v<=u
  ·rw[if_pos k]at h2;rwa [Rat.le_antisymm le k]at h2 ⊢
  ·rwa [if_neg k]at h2
 clear w1 w2 le h2;refine fni Tryz.f145 ?_;unfold Tryz.f145;repeat (first|simp only[go_sem]|simp (disch:=first|exact omg|fail) only[AX]|refine wki ?_|refine vpd 1 [] ?_|refine vpd 2 [] ?_|refine vpd 6 [] ?_|refine vfa ?_)
 refine vp_loop_inv (fun s=>s.tmp 4 = .ptr 4 0 0/\s.obj 4 0=some [.bool false,.sl 0 [],.sl 0 [],.bool false,.sl 0 [],.sl 0 []]/\s.tmp 5 = .sv (.sl 4 (rvC u++rvC u++rvC v++rvC v))/\s.tmp 6 = .ptr 6 0 0 /\
   ((s.tmp 7 = .sv (.int .i64 1)/\s.obj 6 0=some (rvC u++rvC u))\/(s.tmp 7 = .sv (.int .i64 2)/\s.obj 6 0=some (rvC u++rvC u))\/(s.tmp 7 = .sv (.int .i64 3)/\s.obj 6 0=some (rvC u++rvC v))\/(s.tmp 7 = .sv (.int .i64 4)/\s.obj 6 0=some (rvC u++rvC v))))
  (fun s=>match s.tmp 7 with | .sv (.int _ i)=>4-i.toNat|_=>0) ⟨rfl,rfl,rfl,rfl,.inl ⟨rfl,rfl⟩⟩ ?_
 rintro s ⟨i4,o4,i5,i6,⟨i7,o6⟩|⟨i7,o6⟩|⟨i7,o6⟩|⟨i7,o6⟩⟩
 ·repeat (first|simp only[go_sem,i4,o4,i5,i6,i7,o6,rvC]|simp (disch:=first|exact omg|fail) only[AX,i4,o4,i5,i6,i7,o6,rvC]|refine wki ?_|refine vpd 1 [] ?_|refine vpd 2 [] ?_|refine vpd 6 [] ?_)
  repeat (first|simp only[go_sem,i4,o4,i5,i6,i7,o6,rvC]|simp (disch:=first|exact omg|fail) only[AX,i4,o4,i5,i6,i7,o6,rvC]|refine wki ?_|refine vpd 1 [] ?_|refine vpd 2 [] ?_|refine vpd 6 [] ?_|refine vfa ?_)
  exact⟨.inr (.inl rfl),by decide⟩
 ·repeat (first|simp only[go_sem,i4,o4,i5,i6,i7,o6,rvC]|simp (disch:=first|exact omg|fail) only[AX,i4,o4,i5,i6,i7,o6,rvC]|refine wki ?_|refine vpd 1 [] ?_|refine vpd 2 [] ?_|refine vpd 6 [] ?_)
  repeat (first|simp only[go_sem,i4,o4,i5,i6,i7,o6,rvC]|simp (disch:=first|exact omg|fail) only[AX,i4,o4,i5,i6,i7,o6,rvC]|refine wki ?_|refine vpd 1 [] ?_|refine vpd 2 [] ?_|refine vpd 6 [] ?_|refine vfa ?_)
  first|exact⟨.inr (.inr (.inl rfl)),by decide⟩|exact⟨.inr (.inr (.inl ⟨rfl,rfl⟩)),by decide⟩
 ·repeat (first|simp only[go_sem,i4,o4,i5,i6,i7,o6,rvC]|simp (disch:=first|exact omg|fail) only[AX,i4,o4,i5,i6,i7,o6,rvC]|refine wki ?_|refine vpd 1 [] ?_|refine vpd 2 [] ?_|refine vpd 6 [] ?_)
  repeat (first|simp only[go_sem,i4,o4,i5,i6,i7,o6,rvC]|simp (disch:=first|exact omg|fail) only[AX,i4,o4,i5,i6,i7,o6,rvC]|refine wki ?_|refine vpd 1 [] ?_|refine vpd 2 [] ?_|refine vpd 6 [] ?_|refine vfa ?_)
  first|exact⟨.inr (.inr (.inr rfl)),by decide⟩|exact⟨.inr (.inr (.inr ⟨rfl,rfl⟩)),by decide⟩
 ·repeat (first|simp only[go_sem,i4,o4,i5,i6,i7,o6,rvC]|simp (disch:=first|exact omg|fail) only[AX,i4,o4,i5,i6,i7,o6,rvC]|refine wki ?_|refine vpd 1 [] ?_|refine vpd 2 [] ?_|refine vpd 6 [] ?_)
end
theorem ref14_one:Go.Ev.Fn CX 94 [.int .i64 1] (ballR 1 1)/\Go.Ev.Fn CX 94 [.int .i64 0] (ballR 0 0):=by
 have i:=ref2_Int 1;have j:=ref2_Int 0;have o:=ref4_Of (RatA_rv (int_szR (n:=1)));have q:=ref4_Of (RatA_rv (int_szR (n:=0)));rw[show ((1:Int):Rat)=1 from rfl]at i o;rw[show ((0:Int):Rat)=0 from rfl]at j q;constructor
 ·refine fni Tryz.f94 ?_;unfold Tryz.f94;repeat (first|simp only[go_sem]|simp (disch:=first|exact omg|fail) only[AX]|refine wki ?_|refine vfa ?_)
 ·refine fni Tryz.f94 ?_;unfold Tryz.f94;repeat (first|simp only[go_sem]|simp (disch:=first|exact omg|fail) only[AX]|refine wki ?_|refine vfa ?_)
theorem ref14_lim (l h:Rat):Go.Ev.Fn CX 95 [ballR l h,.bool true] (.tup [ballR l h,.int .i64 0]):=by
 refine fni Tryz.f95 ?_;unfold Tryz.f95;repeat (first|simp only[go_sem,xL]|simp (disch:=first|exact omg|fail) only[AX,xL]|refine wki ?_)
section
variable {k n m p:Int} {sa sb:Bool} {na da nb db:List Nat} {a b x l h:Rat}
theorem ref14_C1 (hA:RatA (ratV sa na da) a 2) (hB:RatA (ratV sb nb db) b 2) (hc:chkD 1 n m a b=0) (zx:szR x 20) (f:Go.Ev.Fn CX 96 [rv ((x-a)/b),.int .i64 p] (.tup [ballR l h,.bool true])) :
  Go.Ev.Fn CX 42 [distV 1 n m sa na da sb nb db,rv x,.int .i64 p] (.tup [ballR l h,.int .i64 0]):=by
 have ck:=ref14_Check (k:=1) (n:=n) (m:=m) hA hB;rw[hc]at ck;have sbt:=ref2_Sub (RatA_rv zx) hA;have ov:=ref14_frac (RatA_rv (szR_sub zx (szR_of hA))) hB;have lm:=ref14_lim l h;clear hA hB zx;generalize (x-a)/b=y at *
 generalize x-a=y2 at *
 refine fni Tryz.f42 ?_;unfold Tryz.f42;repeat (first|simp only[go_sem]|simp (disch:=first|exact omg|fail) only[AX]|refine wki ?_|refine vpd 6 [] ?_|refine vpd 18 [] ?_|refine vpd 20 [] ?_|refine vpd 22 [] ?_|refine vpd 23 [] ?_|refine vpd 24 [] ?_|refine vfa ?_)
theorem ref14_CZ (hA:RatA (ratV sa na da) a 2) (hB:RatA (ratV sb nb db) b 2) (hc:chkD k n m a b=0) (hk:k=2\/k=3\/k=4\/k=6\/k=7:=by omega) :
  Go.Ev.Fn CX 42 [distV k n m sa na da sb nb db,rv 0,.int .i64 p] (.tup [ballR 0 0,.int .i64 0]):=by
 have ck:=ref14_Check (k:=k) (n:=n) (m:=m) hA hB;rw[hc]at ck;have ps:=ref14_positive (RatA_rv (szR_zero (L:=1)));rw[decide_eq_false (by decide)]at ps;have x0:=ref14_one.2;clear hA hB;have k1 : ¬k=1:=by omega
 have k5 : ¬k=5:=by omega
 have k8 : ¬k=8:=by omega
 have k9 : ¬k=9:=by omega
 clear hk hc;refine fni Tryz.f42 ?_;unfold Tryz.f42;repeat (first|simp only[go_sem,xg]|simp (disch:=first|exact omg|fail) only[AX,xg]|refine wki ?_|refine vpd 6 [] ?_|refine vpd 18 [] ?_|refine vpd 20 [] ?_|refine vpd 22 [] ?_|refine vpd 23 [] ?_|refine vpd 24 [] ?_|refine vfa ?_)
theorem ref14_C2 {A B w:Nat} (hA:RatA (ratV sa na da) a 2) (hB:RatA (ratV sb nb db) b 2) (hc:chkD 2 n m a b=0) (zx:szR x 20) (x0:0<x) (h64:a*x<=64) (hp:p=(w:Int)) (hw:w<=200) (zA:(lim A).length<=200) (zB:(lim B).length<=200)
  (f:Go.Ev.Fn CX 150 [rv (-(a*x)),.int .i64 ((w+20:Nat):Int)] (ivN A B)) :
  Go.Ev.Fn CX 42 [distV 2 n m sa na da sb nb db,rv x,.int .i64 p] (.tup [ballR (1-mkRat (B:Int) (2^(w+20))) (1-mkRat (A:Int) (2^(w+20))),.int .i64 0]):=by
 have ck:=ref14_Check (k:=2) (n:=n) (m:=m) hA hB;rw[hc]at ck;have ps:=ref14_positive (RatA_rv zx);rw[decide_eq_true x0]at ps;have za:=szR_of hA;have mu:=ref2_Mul hA (RatA_rv zx);have zm:=szR_mul za zx;have i:=ref2_Int 64;have sbt:=ref2_Sub (RatA_rv zm) (RatA_rv (int_szR (n:=64)));have ps2:=ref14_positive (RatA_rv (szR_sub zm (int_szR (n:=64))));rw[show ((64:Int):Rat)=64 from rfl]at i sbt ps2;rw[decide_eq_false (show ¬0<a*x-64 by grind)]at ps2;have ng:=ref2_Neg (RatA_rv zm);have ho:=ref10_Hold (p:=w)
 have bl:=ref4_Ball (a:=(A:Int)) (b:=(B:Int)) (by rw[xJ];omega) (by rw[xJ];omega) (w+20) (by omega);rw[ivN_eq]at bl;have lp:=lim_len_p2k (n:=2^(w+20)) (w:=w+20) (xQ _);have s1:szR 1 300:=szR_mono one_len;have su:=ref4_SubI s1 s1 (szR_nat (n:=A):szR (mkRat (A:Int) (2^(w+20))) 300) (szR_nat (n:=B):szR (mkRat (B:Int) (2^(w+20))) 300);have e1:=ref14_one.1;rw[show ((w+20:Nat):Int)=(w:Int)+20 from rfl]at f bl;clear hA hB zx za zm s1;subst hp;generalize mkRat (A:Int) (2^(w+20))=u1 at *
 generalize mkRat (B:Int) (2^(w+20))=u2 at *
 generalize 1-u1=v1 at *
 generalize 1-u2=v2 at *
 clear h64 hc;generalize -(a*x)=y1 at *
 generalize a*x-64=y2 at *
 generalize a*x=y3 at *
 have ex:Go.Ev.Fn CX 100 [distV 2 n m sa na da sb nb db,rv x,.int .i64 (w:Int)] (.tup [ballR v2 v1,.int .i64 0]):=by
  refine fni Tryz.f100 ?_;unfold Tryz.f100;repeat (first|simp only[go_sem]|simp (disch:=first|exact omg|fail) only[AX]|refine wki ?_|refine vpd 2 [] ?_|refine vpd 6 [] ?_|refine vfa ?_)
 clear mu i sbt ps2 ho ng f bl e1 su;refine fni Tryz.f42 ?_;unfold Tryz.f42;repeat (first|simp only[go_sem,xL]|simp (disch:=first|exact omg|fail) only[AX,xL]|refine wki ?_|refine vpd 6 [] ?_|refine vpd 18 [] ?_|refine vpd 20 [] ?_|refine vpd 22 [] ?_|refine vpd 23 [] ?_|refine vpd 24 [] ?_|refine vfa ?_)
theorem ref14_C3 (hA:RatA (ratV sa na da) a 2) (hB:RatA (ratV sb nb db) b 2) (hc:chkD 3 n m a b=0) (zx:szR x 20) (x0:0<x) (f:Go.Ev.Fn CX 101 [.int .i64 n,rv (a*x),.int .i64 p] (.tup [ballR l h,.bool true])) :
  Go.Ev.Fn CX 42 [distV 3 n m sa na da sb nb db,rv x,.int .i64 p] (.tup [ballR l h,.int .i64 0]):=by
 have ck:=ref14_Check (k:=3) (n:=n) (m:=m) hA hB;rw[hc]at ck;have ps:=ref14_positive (RatA_rv zx);rw[decide_eq_true x0]at ps;have mu:=ref2_Mul hA (RatA_rv zx);have lm:=ref14_lim l h;clear hA hB zx hc;generalize a*x=y at *
 refine fni Tryz.f42 ?_;unfold Tryz.f42;repeat (first|simp only[go_sem,xL]|simp (disch:=first|exact omg|fail) only[AX,xL]|refine wki ?_|refine vpd 6 [] ?_|refine vpd 18 [] ?_|refine vpd 20 [] ?_|refine vpd 22 [] ?_|refine vpd 23 [] ?_|refine vpd 24 [] ?_|refine vfa ?_)
theorem ref14_C4 (hA:RatA (ratV sa na da) a 2) (hB:RatA (ratV sb nb db) b 2) (hc:chkD 4 n m a b=0) (zx:szR x 20) (x0:0<x) (f:Go.Ev.Fn CX 101 [.int .i64 n,rv (x/2),.int .i64 p] (.tup [ballR l h,.bool true])) :
  Go.Ev.Fn CX 42 [distV 4 n m sa na da sb nb db,rv x,.int .i64 p] (.tup [ballR l h,.int .i64 0]):=by
 have ck:=ref14_Check (k:=4) (n:=n) (m:=m) hA hB;rw[hc]at ck;have ps:=ref14_positive (RatA_rv zx);rw[decide_eq_true x0]at ps;have i:=ref2_Int 2;have ov:=ref14_frac (RatA_rv zx) (RatA_rv (int_szR (n:=2)));rw[show ((2:Int):Rat)=2 from rfl]at i ov;have lm:=ref14_lim l h;clear hA hB zx hc;generalize x/2=y at *
 refine fni Tryz.f42 ?_;unfold Tryz.f42;repeat (first|simp only[go_sem,xL]|simp (disch:=first|exact omg|fail) only[AX,xL]|refine wki ?_|refine vpd 6 [] ?_|refine vpd 18 [] ?_|refine vpd 20 [] ?_|refine vpd 22 [] ?_|refine vpd 23 [] ?_|refine vpd 24 [] ?_|refine vfa ?_)
theorem ref14_C6 (hA:RatA (ratV sa na da) a 2) (hB:RatA (ratV sb nb db) b 2) (hc:chkD 6 n m a b=0) (hn:1<=n/\n<=256) (hm:1<=m/\m<=256) (zx:szR x 20) (x0:0<x)
  (f:Go.Ev.Fn CX 62 [.int .i64 n,.int .i64 m,rv (fisY n m x),.int .i64 p] (.tup [ballR l h,.bool true])) :
  Go.Ev.Fn CX 42 [distV 6 n m sa na da sb nb db,rv x,.int .i64 p] (.tup [ballR l h,.int .i64 0]):=by
 have ck:=ref14_Check (k:=6) (n:=n) (m:=m) hA hB;rw[hc]at ck;have ps:=ref14_positive (RatA_rv zx);rw[decide_eq_true x0]at ps;have i:=int_szR (n:=n);have j:=int_szR (n:=m);have rn:=ref2_Int n;have rm:=ref2_Int m;have mu:=ref2_Mul (RatA_rv i) (RatA_rv zx);have ad:=ref2_Add (RatA_rv (szR_mul i zx)) (RatA_rv j);have ov:=ref14_frac (RatA_rv (szR_mul i zx)) (RatA_rv (szR_add (szR_mul i zx) j));have lm:=ref14_lim l h;unfold fisY at f;clear zx i j hA hB hc;generalize (n:Rat)*x/((n:Rat)*x+(m:Rat))=y at *
 generalize (n:Rat)*x+(m:Rat)=y2 at *
 generalize (n:Rat)*x=y3 at *
 refine fni Tryz.f42 ?_;unfold Tryz.f42;repeat (first|simp only[go_sem,xL]|simp (disch:=first|exact omg|fail) only[AX,xL]|refine wki ?_|refine vpd 6 [] ?_|refine vpd 18 [] ?_|refine vpd 20 [] ?_|refine vpd 22 [] ?_|refine vpd 23 [] ?_|refine vpd 24 [] ?_|refine vfa ?_)
theorem ref14_C7 (hA:RatA (ratV sa na da) a 2) (hB:RatA (ratV sb nb db) b 2) (hc:chkD 7 n m a b=0) (zx:szR x 20) (x0:0<x) (x1:x<1)
  (f:Go.Ev.Fn CX 62 [.int .i64 n,.int .i64 m,rv x,.int .i64 p] (.tup [ballR l h,.bool true])) :
  Go.Ev.Fn CX 42 [distV 7 n m sa na da sb nb db,rv x,.int .i64 p] (.tup [ballR l h,.int .i64 0]):=by
 have ck:=ref14_Check (k:=7) (n:=n) (m:=m) hA hB;rw[hc]at ck;have ps:=ref14_positive (RatA_rv zx);rw[decide_eq_true x0]at ps;have i1:=ref2_Int 1;have c1:=ref2_Cmp (RatA_rv zx) (RatA_rv (int_szR (n:=1)));have e1:=cmpR_ge (q:=x) (r:=((1:Int):Rat));rw[show ((1:Int):Rat)=1 from rfl]at i1 c1 e1;rw[decide_eq_false (show ¬1<=x by grind)]at e1;have lm:=ref14_lim l h;clear hA hB zx hc;generalize cmpR x 1=y at *
 refine fni Tryz.f42 ?_;unfold Tryz.f42;repeat (first|simp only[go_sem,xL,e1]|simp (disch:=first|exact omg|fail) only[AX,xL,e1]|refine wki ?_|refine vpd 6 [] ?_|refine vpd 18 [] ?_|refine vpd 20 [] ?_|refine vpd 22 [] ?_|refine vpd 23 [] ?_|refine vpd 24 [] ?_|refine vfa ?_)
theorem ref14_C7e (hA:RatA (ratV sa na da) a 2) (hB:RatA (ratV sb nb db) b 2) (hc:chkD 7 n m a b=0) :
  Go.Ev.Fn CX 42 [distV 7 n m sa na da sb nb db,rv 1,.int .i64 p] (.tup [ballR 1 1,.int .i64 0]):=by
 have ck:=ref14_Check (k:=7) (n:=n) (m:=m) hA hB;rw[hc]at ck;have ps:=ref14_positive (RatA_rv one_len);rw[decide_eq_true (by decide)]at ps;have i1:=ref2_Int 1;have c1:=ref2_Cmp (RatA_rv one_len) (RatA_rv (int_szR (n:=1)));have e1:=cmpR_ge (q:=1) (r:=((1:Int):Rat));rw[show ((1:Int):Rat)=1 from rfl]at i1 c1 e1;rw[decide_eq_true (show (1:Rat)<=1 by decide)]at e1;have x1:=ref14_one.1;clear hA hB hc;generalize cmpR 1 1=y at *
 refine fni Tryz.f42 ?_;unfold Tryz.f42;repeat (first|simp only[go_sem,xL,e1]|simp (disch:=first|exact omg|fail) only[AX,xL,e1]|refine wki ?_|refine vpd 6 [] ?_|refine vpd 18 [] ?_|refine vpd 20 [] ?_|refine vpd 22 [] ?_|refine vpd 23 [] ?_|refine vpd 24 [] ?_|refine vfa ?_)
set_option maxHeartbeats 2000000 in
theorem ref14_C5 (hA:RatA (ratV sa na da) a 2) (hB:RatA (ratV sb nb db) b 2) (hc:chkD 5 n m a b=0) (hn:1<=n/\n<=256) (zx:szR x 20) (z1:szR l 200) (z2:szR h 200) (g:l<=h)
  (f:Go.Ev.Fn CX 62 [.int .i64 n,.int .i64 1,rv (stuY n x),.int .i64 p] (.tup [ballR l h,.bool true])) :
  Go.Ev.Fn CX 42 [distV 5 n m sa na da sb nb db,rv x,.int .i64 p] (.tup [ballR (stuB x l h).1 (stuB x l h).2,.int .i64 0]):=by
 have ck:=ref14_Check (k:=5) (n:=n) (m:=m) hA hB;rw[hc]at ck;have i:=int_szR (n:=n);have rn:=ref2_Int n;have mu:=ref2_Mul (RatA_rv zx) (RatA_rv zx);have ad:=ref2_Add (RatA_rv i) (RatA_rv (szR_mul zx zx));have ov:=ref14_frac (RatA_rv i) (RatA_rv (szR_add i (szR_mul zx zx)));have oh:=ref2_Of false [1] [2] (by simp[okL]) (by simp[okL]) (by simp) (by simp);rw[show wth [1]=1 from rfl,show wth [2]=2 from rfl]at oh;have oh':Go.Ev.Fn CX 39 [.bool false,.sl 1 [.int .u32 1],.sl 1 [.int .u32 2]] (rv (1/2)):=by rw[<- half_mk];exact oh
 clear oh;have o:=ref4_Of (RatA_rv hfQ_len);have bm:=ref4_MulH (szR_mono z1 (show 200<=300 by omega)) (szR_mono z2 (show 200<=300 by omega)) g;have s1:szR 1 300:=szR_mono one_len;have su:=ref4_SubI s1 s1 (szR_mono (szR_mul z1 hfQ_len) (show 200+1<=300 by omega)) (szR_mono (szR_mul z2 hfQ_len) (show 200+1<=300 by omega));have e1:=ref14_one.1;have nm:=ref2_Norm (RatA_rv zx);have er:rv x=ratV (decide (x<0)) (lim x.num.natAbs) (lim x.den):=by rw[<- neg_numX]
 unfold stuB;unfold stuY at f;clear hA hB zx i s1 z1 z2 g hc;generalize (n:Rat)/((n:Rat)+x*x)=y at *
 generalize (n:Rat)+x*x=y2 at *
 generalize x*x=y3 at *
 generalize l*(1/2)=l2 at *
 generalize h*(1/2)=h2 at *
 generalize (1/2:Rat)=hf at *
 rw[er]at mu nm ⊢;by_cases x0:x<0
 ·rw[decide_eq_true x0]at mu nm ⊢;rw[if_pos x0];clear er x0;have st:Go.Ev.Fn CX 98 [distV 5 n m sa na da sb nb db,ratV true (lim x.num.natAbs) (lim x.den),.int .i64 p] (.tup [ballR l2 h2,.int .i64 0]):=by
   refine fni Tryz.f98 ?_;unfold Tryz.f98;repeat (first|simp only[go_sem,xL]|simp (disch:=first|exact omg|fail) only[AX,xL]|refine wki ?_|refine vpd 2 [] ?_|refine vpd 5 [33,34] ?_|refine vpd 8 [] ?_|refine vfa ?_)
  clear rn mu ad ov f oh' o bm nm su e1;refine fni Tryz.f42 ?_;unfold Tryz.f42;repeat (first|simp only[go_sem]|simp (disch:=first|exact omg|fail) only[AX]|refine wki ?_|refine vpd 6 [] ?_|refine vpd 18 [] ?_|refine vpd 20 [] ?_|refine vpd 22 [] ?_|refine vpd 23 [] ?_|refine vpd 24 [] ?_|refine vfa ?_)
 ·rw[decide_eq_false x0]at mu nm ⊢;rw[if_neg x0];generalize 1-h2=u1 at *
  generalize 1-l2=u2 at *
  clear er x0;have st:Go.Ev.Fn CX 98 [distV 5 n m sa na da sb nb db,ratV false (lim x.num.natAbs) (lim x.den),.int .i64 p] (.tup [ballR u1 u2,.int .i64 0]):=by
   refine fni Tryz.f98 ?_;unfold Tryz.f98;repeat (first|simp only[go_sem,xL]|simp (disch:=first|exact omg|fail) only[AX,xL]|refine wki ?_|refine vpd 2 [] ?_|refine vpd 5 [33,34] ?_|refine vpd 8 [] ?_|refine vfa ?_)
  clear rn mu ad ov f oh' o bm nm su e1;refine fni Tryz.f42 ?_;unfold Tryz.f42;repeat (first|simp only[go_sem]|simp (disch:=first|exact omg|fail) only[AX]|refine wki ?_|refine vpd 6 [] ?_|refine vpd 18 [] ?_|refine vpd 20 [] ?_|refine vpd 22 [] ?_|refine vpd 23 [] ?_|refine vpd 24 [] ?_|refine vfa ?_)
end
end Go.Proofs.YtfknkoeagjonbaaGreat
namespace Go.Proofs.YtfknkoeagjonbaaGreat
open Go.Ev
def sLo (neg:Bool) (a b:Nat):Int:=if neg then -(b:Int) else (a:Int)
def sHi (neg:Bool) (a b:Nat):Int:=if neg then -(a:Int) else (b:Int)
abbrev ivS (neg:Bool) (a b:Nat):SV:=ivV (sLo neg a b) (sHi neg a b)
theorem sLo_abs (neg:Bool) {a b:Nat} (h:a<=b):(sLo neg a b).natAbs<=b:=by
 unfold sLo;cases neg
 ·rw[if_neg (by decide),xJ];exact h
 ·rw[if_pos rfl,yJ,xJ];exact xQ _
theorem sHi_abs (neg:Bool) {a b:Nat} (h:a<=b):(sHi neg a b).natAbs<=b:=by
 unfold sHi;cases neg
 ·rw[if_neg (by decide),xJ];exact xQ _
 ·rw[if_pos rfl,yJ,xJ];exact h
theorem loQ_left {a b c d:Nat} (h1:a<=b) (h2:c<=d):loQ (-(b:Int)) (-(a:Int)) c d = -((b*d:Nat):Int)/\hiQ (-(b:Int)) (-(a:Int)) c d = -((a*c:Nat):Int):=by
 have e1:a*c<=a*d:=xI _ h2;have e2:a*c<=b*c:=xC _ h1;have e3:b*c<=b*d:=xI _ h2;have e4:a*d<=b*d:=xC _ h1;unfold loQ loP hiQ hiP mnZ mxZ;rw[wX,wX,wX,wX,<- yF,<- yF,<- yF,<- yF];generalize a*c=x1 at *
 generalize a*d=x2 at *
 generalize b*c=x3 at *
 generalize b*d=x4 at *
 constructor<;>(repeat' split)<;>omega
theorem ref4_ProdS {neg:Bool} {a b c d w:Nat} (h1:a<=b) (h2:c<=d) (hb:(lim b).length<=10000:=by omega) (hd:(lim d).length<=10000:=by omega) (hw:w<=4096:=by omega) (h0:0<w:=by omega) :
  Go.Ev.Fn CX 190 [ivS neg a b,ivN c d,.int .i64 (w:Int)] (ivS neg (a*c/2^w) (cdv (b*d) (2^w))):=by
 have P:0<2^w:=xK (by omega);cases neg with
 |false=>
  have h:=ref4_ProdN h1 h2 hb hd hw h0;rw[<- ivN_eq,<- ivN_eq,<- ivN_eq]at h;rw[<- ivN_eq];exact h
 |true=>
  have la:=lim_len_mono h1;have lc:=lim_len_mono h2;have h:=ref4_Prod (a := -(b:Int)) (b := -(a:Int)) (c:=(c:Int)) (d:=(d:Int)) (w:=w) (by rw[yJ,xJ];omega) (by rw[yJ,xJ];omega) (by rw[xJ];omega) (by rw[xJ];omega) hw h0;rw[(loQ_left h1 h2).1,(loQ_left h1 h2).2,divZ_neg P,cdZ_neg]at h;rw[<- ivN_eq];exact h
theorem ref4_BackS {neg:Bool} {a b n:Nat} (h1:a<=b) (hb:(lim b).length<=10000:=by omega) (hn:n<=4096:=by omega) (h0:0<n:=by omega):Go.Ev.Fn CX 194 [ivS neg a b,.int .i64 (n:Int)] (ivS neg (a/2^n) (cdv b (2^n))):=by
 have P:0<2^n:=xK (by omega);have la:=lim_len_mono h1;cases neg with
 |false=>
  have h:=ref4_BackN (a:=a) (b:=b) (n:=n) (by omega) (by omega) hn h0;rw[<- ivN_eq,<- ivN_eq]at h;exact h
 |true=>
  have h:=ref4_Back (a := -(b:Int)) (b := -(a:Int)) (by rw[yJ,xJ];omega) (by rw[yJ,xJ];omega) n hn h0;rw[divZ_neg P,cdZ_neg]at h;exact h
theorem ref4_NumS {neg:Bool} {v:SV} {y:Rat} {L w:Nat} (hv:RatA v (if neg then -y else y) L) (hL1:1<=L) (hL:L<=100000) (hw:w<=4096) (h0:0<=y):Go.Ev.Fn CX 121 [v,.int .i64 (w:Int)] (ivS neg (unN y w) (upN y w)):=by
 cases neg with
 |false=>
  have h:=ref4_NumN (show RatA v y L from hv) hL1 hL hw h0;rw[<- ivN_eq]at h;exact h
 |true=>exact ref4_NumNeg (show RatA v (-y) L from hv) hL1 hL hw h0
section
variable {v:SV} {x:Rat} {w n:Nat}
theorem ref10_half {L:Nat} (hv:RatA v x L) (hL1:1<=L) (hL:L<=1000:=by omega):Go.Ev.Fn CX 278 [v] (rv (x*mkRat 1 2)):=by
 have oh:=ref2_Of false [1] [2] (by simp[okL]) (by simp[okL]) (by simp) (by simp);rw[show wth [1]=1 from rfl,show wth [2]=2 from rfl]at oh;have oh':Go.Ev.Fn CX 39 [.bool false,.sl 1 [.int .u32 1],.sl 1 [.int .u32 2]] (rv (mkRat 1 2)):=oh;have mu:=ref2_Mul hv (RatA_rv half_len) hL1;clear oh;generalize x*mkRat 1 2=y at *
 generalize mkRat 1 2=h at *
 obtain⟨s,N,D,rfl,-⟩:=hv;refine fni Tryz.f278 ?_;unfold Tryz.f278;repeat (first|simp only[go_sem]|simp (disch:=first|exact omg|fail) only[AX]|refine wki ?_|refine vpd 1 [4,5] ?_|refine vfa ?_)
theorem ref10_root (hn:n=1\/n=2) (hw0:50<=w:=by omega) (hw:w<=360:=by omega) :
  ∃A B:Nat,∃r1 r2:Rat,Go.Ev.Fn CX 215 [.int .i64 (n:Int),.int .i64 (w:Int)] (ivN A B)/\A<=B/\(lim B).length<=60/\0<=r1/\0<=r2/\r1*r1<=(n:Rat)*(SQ*SQ)/\(n:Rat)*(SQ*SQ)<=r2*r2 /\ ∀r,r1<=r->r<=r2->Enc w A B (1/r):=by
 obtain⟨PL,PH,hpi,p1,p2',p3,p4,p5⟩:=iv_piB (W:=w) hw0;have fp:=ref8_PiIv (w:=w) (by omega) hpi;have P:2^8<=2^w:=xD (by omega) (by omega);have lPH:=lim_len_p2 (n:=PH) p5;have lPL:=lim_len_mono p4;have q0:0<=SQ*SQ:=by decide +kernel
 obtain⟨QL,QH,q1,q2,q3,eq,nn,of⟩ : ∃QL QH:Nat,2^w<=QL/\QL<=QH/\QH<=2^(w+4)/\Enc w QL QH ((n:Rat)*(SQ*SQ))/\0<=(n:Rat)*(SQ*SQ)/\((n=1/\QL=PL/\QH=PH)\/(n=2/\Go.Ev.Fn CX 258 [ivN PL PH,.int .i64 2] (ivN QL QH))):=by
  have e34:2^(w+4)=2^(w+3)*2:=xU _ _;rcases hn with rfl|rfl
  ·refine⟨PL,PH,p3,p4,by omega,?_,?_,.inl ⟨rfl,rfl,rfl⟩⟩
   ·rw[show ((1:Nat):Rat)=1 from rfl,xc];exact⟨p1,p2'⟩
   ·exact xF (nat_nonneg _) q0
  ·have e:=enc_oftenN (show Enc w PL PH (SQ*SQ) from⟨p1,p2'⟩);refine⟨PL*2,PH*2,by omega,by omega,by omega,?_,xF (nat_nonneg _) q0,.inr ⟨rfl,ref4_OftenN (n:=2)⟩⟩;rw[show ((2:Nat):Rat)=2 from rfl,ya];exact e
 have lQH:=lim_len_p2 (n:=QH) q3;have lQL:=lim_len_mono q2;obtain⟨r1,r2,a0,a1,a2,a3,es⟩:=sqrt_pts nn eq;have sq:=ref4_SqrtN (a:=QL) (b:=QH) (w:=w);have q12:rtN (QL*2^w)<=rtN (QH*2^w)+1:=yP (rtN_mono (xC _ q2));have rl:2^w<=rtN (QL*2^w):=by
  have h:=rtN_mono (xC (2^w) q1);rw[<- rtN_eq (a:=2^w*2^w) (r:=2^w) (xQ _) (Nat.mul_lt_mul'' (by omega) (by omega))]at h;exact h
 have lr:(lim (rtN (QH*2^w)+1)).length<=40:=by
  have a:QH*2^w<=2^(w+4+w):=by rw[xM _ (w+4) w];exact xC _ q3
  have b:=rtN_self (QH*2^w);refine lim_len_p2 (w:=w+4+w+1) ?_;rw[xU];have:0<2^(w+4+w):=xK (by omega);omega
 have rp:0<rtN (QL*2^w):=by omega
 have iv:=ref4_InvN (a:=rtN (QL*2^w)) (b:=rtN (QH*2^w)+1) (w:=w) rp q12;have i12:2^(2*w)/(rtN (QH*2^w)+1)<=cdv (2^(2*w)) (rtN (QL*2^w)):=xH (ww q12 rp) (div_le_cdv rp (xQ _));have li:=lim_len_p2 (n:=cdv (2^(2*w)) (rtN (QL*2^w))) (w:=2*w) (cdv_self _ rp);refine⟨_,_,r1,r2,?_,i12,by omega,a0,a2,a1,a3,fun r g1 g2=>enc_invN rp (es r g1 g2)⟩;clear es a0 a1 a2 a3 nn eq p1 p2' p3 p5 q1 q3 rl q0;generalize 2^(2*w)/(rtN (QH*2^w)+1)=I1 at *
 generalize cdv (2^(2*w)) (rtN (QL*2^w))=I2 at *
 generalize rtN (QL*2^w)=R1 at *
 generalize rtN (QH*2^w)+1=R2 at *
 rcases of with⟨rfl,rfl,rfl⟩|⟨rfl,of⟩
 ·refine fni Tryz.f215 ?_;unfold Tryz.f215;repeat (first|simp only[go_sem]|simp (disch:=first|exact omg|fail) only[AX]|refine wki ?_|refine vfa ?_)
 ·refine fni Tryz.f215 ?_;unfold Tryz.f215;repeat (first|simp only[go_sem]|simp (disch:=first|exact omg|fail) only[AX]|refine wki ?_|refine vfa ?_)
set_option maxHeartbeats 1000000 in
theorem ref10_row {L:Nat} (hv:RatA v x L) (hL1:1<=L) (hL:L<=50) (h0:0<=x) (h128:x<=128) (hw0:40<=w:=by omega) (hw:w<=900:=by omega) :
  ∃A B:Nat,Go.Ev.Fn CX 279 [v,.int .i64 (w:Int)] (ivN A B)/\A<=B/\(lim B).length<=100 /\ ∃s0,∀L,s0<=L->Enc w A B (sk x 3 L):=by
 have zx:=szR_of hv hL1;have nb:=ref4_NumN (w:=w) hv hL1 (by omega) (by omega) h0;have n1:=ref4_NumN (w:=w) (RatA_rv (one_szR')) (by omega) (by omega) (by omega) (show (0:Rat)<=1 by decide);have u1:unN 1 w=2^w:=by show 1*2^w/1=_;rw[xe,zK]
 have u2:upN 1 w=2^w:=by show cdv (1*2^w) 1=_;unfold cdv;rw[xe,zK];omega
 rw[u1,u2]at n1;have i1:=ref2_Int 1;rw[show ((1:Int):Rat)=1 from rfl]at i1;have en:=num_enc h0 w;have y12:=un_up (q:=x) w;have yT:upN x w<=2^w*128:=upN_le (n:=128) (m:=1) h0 (by
  rw[show ((128:Nat):Rat)=128 from rfl,show ((1:Nat):Rat)=1 from rfl];grind)
 have P8:2^8<=2^w:=xD (by omega) (by omega);have ok:=dInv_0 w 3;obtain⟨F,hF⟩ : ∃F:Nat,F=2100:=⟨_,rfl⟩
 obtain⟨A,B,hr,hAB,hB⟩:=dRow_end (y:=x) (k0:=3) yT y12 (by omega) h128 (by omega) (by omega) 127 F 0 3 _ _ _ _ ok (by omega) (by omega) (by omega);have e7:2^(w+8)=2^w*256:=xM _ _ _;have lB:=lim_len_pw (n:=B) (w:=w+909) (yM hB (zS (by omega) (by omega)));have ly2:=lim_len_pw (n:=upN x w) (w:=w+8);refine⟨A,B,?_,hAB,by omega,dRow_enc (by omega) en F 0 _ _ _ _ A B hr sq_one (by show Enc w _ _ (0+1);rw[Rat.zero_add];exact sq_one)⟩
 have lens:=fun (i k t1 t2 s1 s2:Nat) (hi:i<=F) (h:dInv w 3 i k t1 t2 s1 s2)=>(show (lim t1).length<=100/\(lim t2).length<=100/\(lim s1).length<=100/\(lim s2).length<=100/\8<=s1 from by
  obtain⟨q1,q2,q3,q4,q5,q6⟩:=h;have up:2^(w+7*min i 128)<2^(w+897):=zS (by omega) (by omega);have a:=lim_len_pw (n:=t2) (w:=w+897);have b:=lim_len_mono q2;have s:(i+1)*2^(w+896)<2^(w+909):=by
   rw[show w+909=13+(w+896) by omega,xM 2 13];exact yq (by omega) (xK (by omega))
  have c:=lim_len_pw (n:=s2) (w:=w+909);have d:=lim_len_mono q5;exact⟨by omega,by omega,by omega,by omega,by omega⟩)
 have step:=fun (i k t1 t2 s1 s2:Nat) (h:dInv w 3 i k t1 t2 s1 s2)=>dInv_step yT y12 (show 1<=3 by omega) h
 have w2:=ref4_Whole 2;rw[show (2:Int)=((2:Nat):Int) from rfl,intN_eq]at w2;have l2:(lim 2).length<=1:=lim_len_one (by decide);have j4:=ref2_Int 2;have m4:=ref2_Mul hv (RatA_rv (int_szR (n:=2))) hL1;have zm:=szR_mul zx (int_szR (n:=2)) hL1;have e4:x*((2:Int):Rat)=x+x:=by rw[show ((2:Int):Rat)=2 from rfl];exact dbl_two x
 rw[e4]at m4 zm;obtain⟨W1,hW1⟩ : ∃W1:Nat,W1=2^w:=⟨_,rfl⟩
 rw[<- hW1]at n1 ok hr;have rnd : ∀ (k t1 t2:Nat),0<k->k<10000->t1<=t2->(lim t2).length<=100->Go.Ev.Fn CX 190 [ivN t1 t2,ivN (unN x w) (upN x w),.int .i64 (w:Int)] (ivN (t1*unN x w/2^w) (cdv (t2*upN x w) (2^w))) /\
   Go.Ev.Fn CX 259 [ivN (t1*unN x w/2^w) (cdv (t2*upN x w) (2^w)),.int .i64 (k:Int)] (ivN (t1*unN x w/2^w/k) (cdv (cdv (t2*upN x w) (2^w)) k)):=by
  intro k t1 t2 hk hk2 ht lt;have P:0<2^w:=xK (by omega);have z:=lim_len_mul (a:=t2) (b:=upN x w);have z2:=lim_len_mono (cdv_self (t2*upN x w) P);have v12:t1*unN x w/2^w<=cdv (t2*upN x w) (2^w):=div_le_cdv P (xO ht y12);have z3:=lim_len_mono v12;exact⟨ref4_ProdN ht y12,ref4_ByN (by omega) (by omega) hk⟩
 clear u1 u2 en hAB hB lB e7 P8 yT h0 h128;generalize unN x w=y1 at *
 generalize upN x w=y2 at *
 obtain⟨s0,n0,d0,rfl,-⟩:=hv;refine fni Tryz.f279 ?_;unfold Tryz.f279;repeat (first|simp only[go_sem]|simp (disch:=first|exact omg|fail) only[AX]|refine wki ?_|refine vpd 3 [] ?_|refine vpd 8 [] ?_|refine vfa ?_)
 refine vp_loop_inv (fun s=>s.tmp 1 = .sv (.int .i64 (w:Int))/\s.tmp 2 = .ptr 2 0 0/\s.obj 2 0=some [.bool s0,natV n0,natV d0]/\s.tmp 4 = .ptr 4 0 0/\s.obj 4 0=some [.bool false,.sl 0 [],.bool false,.sl 0 []] /\
   s.tmp 5 = .ptr 5 0 0/\s.obj 5 0=some [.bool false,natV (lim y1),.bool false,natV (lim y2)]/\s.tmp 7 = .ptr 7 0 0/\s.tmp 8 = .ptr 8 0 0 /\
   ∃f i t1 t2 s1 s2:Nat,s.tmp 9 = .sv (.int .i64 ((i+1:Nat):Int))/\f+i=F/\dRow w y1 y2 x f (3+2*i) t1 t2 s1 s2=some (A,B)/\s.obj 7 0=some [.bool false,natV (lim s1),.bool false,natV (lim s2)]/\s.obj 8 0=some [.bool false,natV (lim t1),.bool false,natV (lim t2)]/\dInv w 3 i (3+2*i) t1 t2 s1 s2)
  (fun s=>match s.tmp 9 with | .sv (.int _ i)=>F+2-i.toNat|_=>0) ⟨rfl,rfl,rfl,rfl,rfl,rfl,rfl,rfl,rfl,F,0,_,_,_,_,rfl,by omega,hr,rfl,rfl,ok⟩ ?_
 rintro s ⟨i1',i2',o2,i4,o4,i5,o5,i7,i8,f,i,t1,t2,s1,s2,i9,hfi,hgo,o7,o8,hok⟩
 obtain⟨lt1,lt2,la1,la2,-⟩:=lens i _ t1 t2 s1 s2 (by omega) hok;have st:=step i _ t1 t2 s1 s2 hok;cases f with
 |zero=>simp only[dRow]at hgo;cases hgo
 |succ f=>
  obtain⟨lu1,lu2,lb1,lb2,ge8⟩:=lens (i+1) (3+2*i+2) _ _ _ _ (by omega) st;obtain⟨pr,by1⟩:=rnd (3+2*i) t1 t2 (by omega) (by omega) hok.2.1 lt2;have u12:=st.2.1;rw[dRow]at hgo;generalize t1*y1/2^w/(3+2*i)=u1 at *
  generalize cdv (cdv (t2*y2) (2^w)) (3+2*i)=u2 at *
  generalize t1*y1/2^w=v1 at *
  generalize cdv (t2*y2) (2^w)=v2' at *
  have sm:=ref4_SumNN (a:=s1) (b:=s2) (c:=u1) (d:=u2);have mo:=ref4_MostN (a:=u1) (b:=u2) u12;have cc:=ref4_CmpN (a:=u2) (b:=2);have ec:decide (cmpZ ((u2:Nat):Int) ((2:Nat):Int)<=0)=decide (u2<=2):=by rw[cmpZ_le];exact decide_eq_decide.2 (by omega)
  generalize cmpZ ((u2:Nat):Int) ((2:Nat):Int)=z at *
  have j2:=ref2_Int ((3+2*i+2:Nat):Int);have cm:=ref2_Cmp (RatA_rv zm) (RatA_rv (int_szR (n:=((3+2*i+2:Nat):Int))));have ex:decide (cmpR (x+x) (((3+2*i+2:Nat):Int):Rat)<=0)=decide (x+x<=((3+2*i+2:Nat):Rat)):=cmpR_le;generalize cmpR (x+x) (((3+2*i+2:Nat):Int):Rat)=zc at *
  have wd:=ref4_WideN (a:=s1+u1) (b:=s2+u2) (n:=8) (by omega) (by omega) ge8;generalize hNI:((3+2*i+2:Nat):Int)=NI at *
  generalize hNR:((3+2*i+2:Nat):Rat)=NR at *
  generalize (NI:Rat)=NIR at *
  rw[<- hNI,show ((3+2*i+2:Nat):Int)=2*((i:Int)+1)+3 by omega]at j2;rw[show ((3+2*i:Nat):Int)=2*((i:Int)+1)+1 by omega]at by1;rw[show ((i+1:Nat):Int)=(i:Int)+1 by omega]at i9;generalize x+x=yy at *
  clear lens step rnd hr;by_cases hu:u2<=2
  ·rw[decide_eq_true hu]at ec;by_cases hx:yy<=NR
   ·rw[decide_eq_true hx]at ex;rw[if_pos ⟨hu,hx⟩]at hgo;simp only[Option.some.injEq,Prod.mk.injEq]at hgo;rw[hgo.1,hgo.2]at wd;clear hgo st hok;repeat (first|simp only[go_sem,i1',i2',o2,i4,o4,i5,o5,i7,i8,i9,o7,o8,ec,ex]|simp (disch:=first|exact omg|fail) only[AX,i1',i2',o2,i4,o4,i5,o5,i7,i8,i9,o7,o8,ec,ex]|refine wki ?_|refine vpd 3 [] ?_|refine vpd 8 [] ?_|refine vf_of (by first|exact pr|exact by1|exact sm|exact mo|exact w2|exact cc|exact j4|exact m4|exact j2|exact cm|exact wd) ?_)
   ·rw[decide_eq_false hx]at ex;rw[if_neg (fun h=>hx h.2)]at hgo;repeat (first|simp only[go_sem,i1',i2',o2,i4,o4,i5,o5,i7,i8,i9,o7,o8,ec,ex]|simp (disch:=first|exact omg|fail) only[AX,i1',i2',o2,i4,o4,i5,o5,i7,i8,i9,o7,o8,ec,ex]|refine wki ?_|refine vpd 3 [] ?_|refine vpd 8 [] ?_|refine vf_of (by first|exact pr|exact by1|exact sm|exact mo|exact w2|exact cc|exact j4|exact m4|exact j2|exact cm) ?_)
    exact⟨⟨f,i+1,u1,u2,s1+u1,s2+u2,by first|rfl|(congr 2;omega),by omega,by rw[show 3+2*(i+1)=3+2*i+2 by omega];exact hgo,rfl,rfl,by rw[show 3+2*(i+1)=3+2*i+2 by omega];exact st⟩,by omega⟩
  ·rw[decide_eq_false hu]at ec;rw[if_neg (fun h=>hu h.1)]at hgo;repeat (first|simp only[go_sem,i1',i2',o2,i4,o4,i5,o5,i7,i8,i9,o7,o8,ec]|simp (disch:=first|exact omg|fail) only[AX,i1',i2',o2,i4,o4,i5,o5,i7,i8,i9,o7,o8,ec]|refine wki ?_|refine vpd 3 [] ?_|refine vpd 8 [] ?_|refine vf_of (by first|exact pr|exact by1|exact sm|exact mo|exact w2|exact cc) ?_)
   exact⟨⟨f,i+1,u1,u2,s1+u1,s2+u2,by first|rfl|(congr 2;omega),by omega,by rw[show 3+2*(i+1)=3+2*i+2 by omega];exact hgo,rfl,rfl,by rw[show 3+2*(i+1)=3+2*i+2 by omega];exact st⟩,by omega⟩
end
end Go.Proofs.YtfknkoeagjonbaaGreat
namespace Go.Proofs.YtfknkoeagjonbaaGreat
open Go.Ev
theorem add_le2 {a b c d:Rat} (h:a<=b) (g:c<=d):a+c<=b+d:=by grind
theorem half_nn {s:Rat} (h0:0<=s) (h:s<=128) : -(s*mkRat 1 2)<=0 /\ -64 <= -(s*mkRat 1 2):=by
 rw[half_mk];have hh:(1/2:Rat)*2=1:=by decide +kernel
 have a:=xF h0 (show (0:Rat)<=1/2 by decide +kernel);have b:=xA h (show (0:Rat)<=1/2 by decide +kernel);constructor<;>grind
theorem encS {w A B:Nat} {V:Rat} (neg:Bool) (h:Enc w A B V):EncZ w (sLo neg A B) (sHi neg A B) (if neg then -V else V):=by
 obtain⟨h1,h2⟩:=h;unfold EncZ sLo sHi;cases neg with
 |false=>
  rw[if_neg (by decide),if_neg (by decide),if_neg (by decide),castZn,castZn];exact⟨h1,h2⟩
 |true=>
  rw[if_pos rfl,if_pos rfl,if_pos rfl,Rat.intCast_neg,Rat.intCast_neg,castZn,castZn];constructor<;>grind
theorem mkZ_in {w:Nat} {A B:Int} {V:Rat} (h:EncZ w A B V):mkRat A (2^w)<=V/\V<=mkRat B (2^w):=by
 have P:=p2_pos w;exact⟨le_by P (by rw[mk_mulP _ (xK (by omega))];exact h.1),le_by P (by rw[mk_mulP _ (xK (by omega))];exact h.2)⟩
section
variable {v vs:SV} {z s:Rat} {w p C1 C2:Nat} {neg:Bool}
set_option maxHeartbeats 1000000 in
theorem ref10_area {L M:Nat} (hv:RatA v (if neg then -z else z) L) (hL1:1<=L) (hL:L<=20) (hs:RatA vs s M) (hM1:1<=M) (hM:M<=40) (h0:0<=z) (h8:z<=8) (s0:0<=s) (s128:s<=128) (hC:C1<=C2) (lC:(lim C2).length<=100:=by omega) (hw0:50<=w:=by omega) (hw:w<=400:=by omega) :
  ∃A B:Nat,Go.Ev.Fn CX 214 [v,vs,ivN C1 C2,.int .i64 (w:Int)] (ivS neg A B)/\A<=B/\(lim B).length<=500 /\ ∀c,Enc w C1 C2 c -> ∃t,∀L,t<=L->Enc w A B (z*evX (-(s*mkRat 1 2)) L*c*sk s 3 L):=by
 have zs:=szR_of hs hM1;have hf:=ref10_half hs hM1;have zh:=szR_mul zs half_len hM1;have ng:=ref2_Neg (RatA_rv zh);obtain⟨n1,n2⟩:=half_nn s0 s128;obtain⟨E1,E2,e1,e2,fe,t1,ee⟩:=ref6_Iv (w:=w) (RatA_rv (szR_neg zh)) (by omega) (by omega) n1 n2;have lE:=lim_len_p2k e2;clear e2;have nz:=ref4_NumS (w:=w) hv hL1 (by omega) (by omega) h0;have ez:=num_enc h0 w;have z12:=un_up (q:=z) w;have zT:upN z w<=2^w*8:=upN_le (n:=8) (m:=1) h0 (by
  rw[show ((8:Nat):Rat)=8 from rfl,show ((1:Nat):Rat)=1 from rfl];grind)
 have lz:=lim_len_p2k (n:=upN z w) (w:=w+3) (by rw[xM];exact zT);obtain⟨R1,R2,fr,r1,r2,t2,er⟩:=ref10_row (w:=w) hs hM1 (by omega) s0 s128;have P:0<2^w:=xK (by omega);have pr1:=ref4_ProdS (neg:=neg) (a:=unN z w) (b:=upN z w) (c:=E1) (d:=E2) (w:=w) z12 e1;have a12:unN z w*E1/2^w<=cdv (upN z w*E2) (2^w):=div_le_cdv P (xO z12 e1);have la:=xH (lim_len_mono (cdv_self (upN z w*E2) P)) lim_len_mul;have pr2:=ref4_ProdS (neg:=neg) (a:=unN z w*E1/2^w) (b:=cdv (upN z w*E2) (2^w)) (c:=C1) (d:=C2) (w:=w) a12 hC;have b12:unN z w*E1/2^w*C1/2^w<=cdv (cdv (upN z w*E2) (2^w)*C2) (2^w):=div_le_cdv P (xO a12 hC)
 have lb:=xH (lim_len_mono (cdv_self (cdv (upN z w*E2) (2^w)*C2) P)) lim_len_mul;have en : ∀c,Enc w C1 C2 c -> ∀L,t1+t2<=L->Enc w (unN z w*E1/2^w*C1/2^w*R1/2^w) (cdv (cdv (cdv (upN z w*E2) (2^w)*C2) (2^w)*R2) (2^w)) (z*evX (-(s*mkRat 1 2)) L*c*sk s 3 L):=fun c hc L hL=>
  enc_prodN (enc_prodN (enc_prodN ez (ee L (by omega))) hc) (er L (by omega))
 generalize unN z w*E1/2^w=A1 at *
 generalize cdv (upN z w*E2) (2^w)=A2 at *
 generalize A1*C1/2^w=B1 at *
 generalize cdv (A2*C2) (2^w)=B2 at *
 have pr3:=ref4_ProdS (neg:=neg) (a:=B1) (b:=B2) (c:=R1) (d:=R2) (w:=w) b12 r1;have c12:B1*R1/2^w<=cdv (B2*R2) (2^w):=div_le_cdv P (xO b12 r1);have lc:=xH (lim_len_mono (cdv_self (B2*R2) P)) lim_len_mul;refine⟨_,_,?_,c12,by omega,fun c hc=>⟨t1+t2,en c hc⟩⟩;clear en ee er ez n1 n2 c12 b12 a12 zT zs zh z12;obtain⟨s1,n1,d1,rfl,-⟩:=hv;obtain⟨s2,n2,d2,rfl,-⟩:=hs;generalize B1*R1/2^w=O1 at *
 generalize cdv (B2*R2) (2^w)=O2 at *
 generalize -(s*mkRat 1 2)=q2 at *
 generalize s*mkRat 1 2=q1 at *
 refine fni Tryz.f214 ?_;unfold Tryz.f214;repeat (first|simp only[go_sem]|simp (disch:=first|exact omg|fail) only[AX]|refine wki ?_|refine vpd 2 [] ?_|refine vpd 3 [] ?_|refine vfa ?_)
theorem neg_sq (neg:Bool) (z:Rat):(if neg then -z else z)*(if neg then -z else z)=z*z:=by
 cases neg
 ·rfl
 ·show -z * -z=z*z;grind
theorem ref10_share (hv:RatA v (if neg then -z else z) 7) (h0:0<=z) (h8:z<=8) (hw0:20<=w:=by omega) (hw:w<=230:=by omega) :
  ∃A B:Nat,∃r1 r2:Rat,Go.Ev.Fn CX 144 [v,.int .i64 (w:Int)] (ivS neg A B)/\A<=B/\(lim B).length<=500/\0<=r1/\0<=r2/\r1*r1<=2*(SQ*SQ)/\2*(SQ*SQ)<=r2*r2 /\ ∀r,r1<=r->r<=r2 -> ∃t,∀L,t<=L->Enc w A B (arV z (z*z) (z*z/2) r L):=by
 obtain⟨W,hW,hw1,hw2,hwi⟩ : ∃W:Nat,(∀Q:Nat->Prop,Q W->Q (w+130))/\150<=W/\W<=360/\(w:Int)+130=(W:Int):=⟨w+130,fun Q h=>h,by omega,by omega,rfl⟩
 obtain⟨q0,q64⟩:=sq_bd h0 h8;have mu:=ref2_Mul hv hv;have zq:=szR_mul (szR_of hv) (szR_of hv);rw[neg_sq]at mu zq;obtain⟨C1,C2,r1,r2,fr,c12,lC,a0,a1,a2,a3,ec⟩:=ref10_root (n:=2) (w:=W) (.inr rfl);obtain⟨A,B,fa,ab,lB,ea⟩:=ref10_area (w:=W) hv (by omega) (by omega) (RatA_rv zq) (by omega) (by omega) h0 h8 q0 (show z*z<=128 by clear ec;grind) c12;have bk:=ref4_BackS (neg:=neg) (a:=A) (b:=B) (n:=130) ab;have o12:=div_le_cdv (d:=2^130) (wP 130) ab;have lO:=lim_len_mono (cdv_self B (wP 130));rw[show ((2:Nat):Rat)=2 from rfl]at a2 a3;refine⟨_,_,r1,r2,?_,o12,by omega,a0,a1,a2,a3,fun r g1 g2 => ?_⟩
 rotate_left
 ·obtain⟨t,ht⟩:=ea _ (ec r g1 g2);refine⟨t,fun L hL => ?_⟩;have e:=enc_backN (w:=w) (n:=130) (hW (fun W=>Enc W A B _) (ht L hL));have q:z*evX (-(z*z*mkRat 1 2)) L*(1/r)*sk (z*z) 3 L=arV z (z*z) (z*z/2) r L:=by
   unfold arV;have h2:z*z*mkRat 1 2=z*z/2:=by rw[half_mk,xk,xk];grind
   rw[h2];grind
  rw[q]at e;exact e
 clear ea ec q0 q64 a0 a1 a2 a3 zq h0 h8 o12;obtain⟨s1,n1,d1,rfl,-⟩:=hv;generalize A/2^130=O1 at *
 generalize cdv B (2^130)=O2 at *
 generalize z*z=zz at *
 refine fni Tryz.f144 ?_;unfold Tryz.f144;repeat (first|simp only[go_sem,hwi]|simp (disch:=first|exact omg|fail) only[AX,hwi]|refine wki ?_|refine vpd 2 [] ?_|refine vfa ?_)
theorem ref10_nigh {L:Nat} (hv:RatA v z L) (hL1:1<=L) (hL:L<=100) (h1 : -8<=z) (h2:z<=8):Go.Ev.Fn CX 142 [v] (.bool false):=by
 have im:=ref2_Int (-8);have ip:=ref2_Int 8;have c1:=ref2_Cmp hv (RatA_rv (int_szR (n := -8))) hL1;have c2:=ref2_Cmp hv (RatA_rv (int_szR (n:=8))) hL1;have e1:decide (cmpR z ((-8:Int):Rat)<0)=false:=by rw[cmpR_lt];exact decide_eq_false (yZ.2 h1)
 have e2:decide (cmpR z ((8:Int):Rat)>0)=false:=by rw[cmpR_gt];exact decide_eq_false (yZ.2 h2)
 obtain⟨s,n,d,rfl,-⟩:=hv;generalize cmpR z ((-8:Int):Rat)=y1 at *
 generalize cmpR z ((8:Int):Rat)=y2 at *
 refine fni Tryz.f142 ?_;unfold Tryz.f142;repeat (first|simp only[go_sem,e1,e2]|simp (disch:=first|exact omg|fail) only[AX,e1,e2]|refine wki ?_|refine vpd 1 [] ?_|refine vfa ?_)
theorem neg_bd (neg:Bool) {z:Rat} (h0:0<=z) (h8:z<=8) : -8<=(if neg then -z else z)/\(if neg then -z else z)<=8:=by
 cases neg
 ·show -8<=z/\z<=8;constructor<;>grind
 ·show -8 <= -z /\ -z<=8;constructor<;>grind
theorem szR_Z {A:Int} {w L:Nat} (h:(lim A.natAbs).length<=L:=by omega) (hw:(lim (2^w)).length<=L:=by omega) (hL:1<=L:=by omega):szR (mkRat A (2^w)) L:=by
 obtain⟨m,rfl|rfl⟩:=Int.eq_nat_or_neg A
 ·exact szR_nat (by rw[xJ]at h;exact h) hw hL
 ·have e:mkRat (-(m:Int)) (2^w) = -mkRat (m:Int) (2^w):=(Rat.neg_mkRat _ _).symm;rw[e];exact szR_neg (szR_nat (by rw[yJ,xJ]at h;exact h) hw hL)
theorem ref10_Phi (hv:RatA v (if neg then -z else z) 7) (h0:0<=z) (h8:z<=8) (hp:p<=200:=by omega) :
  ∃c d r1 r2:Rat,Go.Ev.Fn CX 96 [v,.int .i64 (p:Int)] (.tup [ballR c d,.bool true])/\szR c 600/\szR d 600/\0<=r1/\0<=r2/\r1*r1<=2*(SQ*SQ)/\2*(SQ*SQ)<=r2*r2 /\ ∀r,r1<=r->r<=r2 -> ∃t,∀L,t<=L->c<=1/2+(if neg then -arV z (z*z) (z*z/2) r L else arV z (z*z) (z*z/2) r L)/\1/2+(if neg then -arV z (z*z) (z*z/2) r L else arV z (z*z) (z*z/2) r L)<=d:=by
 obtain⟨A,B,r1,r2,fs,ab,lB,a0,a1,a2,a3,es⟩:=ref10_share (w:=p+20) hv h0 h8;have h12:(0:Rat)<=mkRat 1 2:=by rw[half_mk];decide +kernel
 have nh:=ref4_NumN (w:=p+20) (RatA_rv half_len) (by omega) (by omega) (by omega) h12;have eh:=num_enc h12 (p+20);have hT:upN (mkRat 1 2) (p+20)<=2^(p+20):=upN_one h12 (by rw[half_mk];decide +kernel);have hT1:=un_up (q:=mkRat 1 2) (p+20);have lH:=lim_len_p2k hT;have lH1:=lim_len_mono hT1;have lp:=lim_len_p2k (n:=2^(p+20)) (w:=p+20) (xQ _);have oh:=ref2_Of false [1] [2] (by simp[okL]) (by simp[okL]) (by simp) (by simp);rw[show wth [1]=1 from rfl,show wth [2]=2 from rfl]at oh;have oh':Go.Ev.Fn CX 39 [.bool false,.sl 1 [.int .u32 1],.sl 1 [.int .u32 2]] (rv (mkRat 1 2)):=oh;clear oh
 have lA:(lim (sLo neg A B).natAbs).length<=500:=xH (lim_len_mono (sLo_abs neg ab)) lB;have lA2:(lim (sHi neg A B).natAbs).length<=500:=xH (lim_len_mono (sHi_abs neg ab)) lB;have sm:=ref4_Sum (a:=((unN (mkRat 1 2) (p+20):Nat):Int)) (b:=((upN (mkRat 1 2) (p+20):Nat):Int)) (c:=sLo neg A B) (d:=sHi neg A B) (by rw[xJ];omega) (by rw[xJ];omega) (by omega) (by omega);rw[ivN_eq]at sm
 have en : ∀r,r1<=r->r<=r2 -> ∃t,∀L,t<=L->EncZ (p+20) (((unN (mkRat 1 2) (p+20):Nat):Int)+sLo neg A B) (((upN (mkRat 1 2) (p+20):Nat):Int)+sHi neg A B) (1/2+(if neg then -arV z (z*z) (z*z/2) r L else arV z (z*z) (z*z/2) r L)):=by
  intro r g1 g2;obtain⟨t,ht⟩:=es r g1 g2;refine⟨t,fun L hL => ?_⟩;obtain⟨k1,k2⟩:=encS neg (ht L hL);rw[half_mk]at eh;obtain⟨k3,k4⟩:=eh;unfold EncZ;rw[castZ,castZ,castZn,castZn,half_mk,wj];exact⟨add_le2 k3 k1,add_le2 k4 k2⟩
 have n1:(lim (((unN (mkRat 1 2) (p+20):Nat):Int)+sLo neg A B).natAbs).length<=501:=by
  refine xH (lim_len_mono (Int.natAbs_add_le _ _)) (lim_len_add (L:=500) ?_ lA);rw[xJ];omega
 have n2:(lim (((upN (mkRat 1 2) (p+20):Nat):Int)+sHi neg A B).natAbs).length<=501:=by
  refine xH (lim_len_mono (Int.natAbs_add_le _ _)) (lim_len_add (L:=500) ?_ lA2);rw[xJ];omega
 have bl:=ref4_Ball (by omega) (by omega) (p+20) (by omega) (a:=((unN (mkRat 1 2) (p+20):Nat):Int)+sLo neg A B) (b:=((upN (mkRat 1 2) (p+20):Nat):Int)+sHi neg A B);refine⟨mkRat (((unN (mkRat 1 2) (p+20):Nat):Int)+sLo neg A B) (2^(p+20)),mkRat (((upN (mkRat 1 2) (p+20):Nat):Int)+sHi neg A B) (2^(p+20)),r1,r2,?_,szR_Z (L:=600),szR_Z (L:=600),a0,a1,a2,a3,fun r g1 g2 => ?_⟩;rotate_left
 ·obtain⟨t,ht⟩:=en r g1 g2;exact⟨t,fun L hL=>mkZ_in (ht L hL)⟩
 have fr:=ref10_nigh hv (by omega) (by omega) (neg_bd neg h0 h8).1 (neg_bd neg h0 h8).2;have ho:=ref10_Hold (p:=p);rw[show ((p+20:Nat):Int)=(p:Int)+20 from rfl]at fs nh bl;clear en es eh hT hT1 h0 h8 a0 a1 a2 a3 n1 n2 ab h12;obtain⟨s1,n1,d1,rfl,-⟩:=hv;generalize ((unN (mkRat 1 2) (p+20):Nat):Int)+sLo neg A B=y1 at *
 generalize ((upN (mkRat 1 2) (p+20):Nat):Int)+sHi neg A B=y2 at *
 generalize unN (mkRat 1 2) (p+20)=u1 at *
 generalize upN (mkRat 1 2) (p+20)=u2 at *
 generalize mkRat y1 (2^(p+20))=q1 at *
 generalize mkRat y2 (2^(p+20))=q2 at *
 generalize mkRat 1 2=hf at *
 refine fni Tryz.f96 ?_;unfold Tryz.f96;repeat (first|simp only[go_sem]|simp (disch:=first|exact omg|fail) only[AX]|refine wki ?_|refine vpd 5 [] ?_|refine vfa ?_)
end
end Go.Proofs.YtfknkoeagjonbaaGreat
namespace Go.Proofs.YtfknkoeagjonbaaGreat
open Go.Ev
section
variable {a b n m:Nat} {x y l h c u v:Rat}
theorem crossW (ha:1<=a) (ha2:a<=20) (hb:1<=b) (hb2:b<=20) (h0:0<x) (hx:x+x<=1) (hl:0<l) (A:Lo1 a b x l):4096*l+l*(1/2-x)<=4096*hfHiW a b:=by
 have hh:(1/2:Rat)+1/2=1:=by decide +kernel
 have H:=half1W ha ha2 hb hb2;generalize (1/2:Rat)=hf at *
 exact grow1 ha ha2 hb hb2 h0 (by grind) (by grind) hl A H
theorem gapW (ha:1<=a) (ha2:a<=20) (hb:1<=b) (hb2:b<=20) (h0:0<x) (hxy:x<=y) (hy:y<1) (hc:0<c) (hl:c<=l) (hh:h<=1-c) (A:LoS a b x l) (B:HiS a b y h) :
  (4096*l+c*(y-x))*p2 210<=4096*h*p2 210+4096:=by
 have l0:0<l:=by grind
 have n0:0<1-h:=by grind
 have P:=p2_pos 210;have cd:=fun (z:Rat) (hz:0<=z)=>xA hl hz
 have ce:=fun (z:Rat) (hz:0<=z)=>xA (show c<=1-h by grind) hz
 have s:=hf_sumW ha hb ha2 hb2;generalize p2 210=Q at *
 have fin : ∀ {e:Rat},4096*l+e<=4096*h->(4096*l+e)*Q<=4096*h*Q+4096:=fun g=>by
  have:=xA g (xG P);grind
 rcases A with⟨k,A⟩|⟨k,A⟩<;>rcases B with⟨k',B⟩|⟨k',B⟩
 ·have g:=grow1 ha ha2 hb hb2 h0 hxy k' l0 A B;have:=cd (y-x) (by grind);exact fin (by grind)
 ·have g:=crossW ha ha2 hb hb2 h0 k l0 A;have g':=crossW hb hb2 ha ha2 (show 0<1-y by grind) (by grind) n0 B;have hf2:(1/2:Rat)+1/2=1:=by decide +kernel
  generalize (1/2:Rat)=hf at *
  have u1:=cd (hf-x) (by grind);have u2:=ce (hf-(1-y)) (by grind);have e:c*(y-x)=c*(hf-x)+c*(hf-(1-y)):=by grind
  rw[e];generalize hfHiW a b=w1 at *
  generalize hfHiW b a=w2 at *
  generalize c*(hf-x)=c1 at *
  generalize c*(hf-(1-y))=c2 at *
  generalize l*(hf-x)=c3 at *
  generalize (1-h)*(hf-(1-y))=c4 at *
  clear cd ce A B e fin;have m:=xA (show 4096*l+c1+(4096*(1-h)+c2)<=4096*(w1+w2) by grind) (xG P);grind
 ·exact absurd k (by grind)
 ·have g:=grow1 hb hb2 ha ha2 (show 0<1-y by grind) (show 1-y<=1-x by grind) (by grind) n0 B A;have:=ce (1-x-(1-y)) (by grind);have e:1-x-(1-y)=y-x:=by grind
  rw[e]at g this;exact fin (by grind)
theorem gapX (ha:1<=a) (ha2:a<=20) (hb:1<=b) (hb2:b<=20) (h0:0<x) (hxy:x<=y) (hy:y<1) (hc:0<c) (hl:c<=l) (hh:h<=1-c) (A:LoS a b x l) (B:HiS a b y h) (k:1<=c*(y-x)*p2 180):1<=(h-l)*p2 194:=by
 have g:=gapW ha ha2 hb hb2 h0 hxy hy hc hl hh A B;have e1:p2 210=p2 180*1073741824:=by decide +kernel
 have e2:p2 194=p2 180*16384:=by decide +kernel
 rw[e1]at g;rw[e2];generalize p2 180=Q at *
 generalize c*(y-x)=w at *
 grind
theorem gap_B (ha:1<=a) (ha2:a<=16) (hb:1<=b) (hb2:b<=16) (hv:v<=1) (huv:1<=(v-u)*2097152) (l0:1<=l*8589934592) (h1:1<=(1-h)*8589934592) (A:LoB a b u l) (B:HiB a b v h):1<=(h-l)*p2 194:=by
 have c0:(1/8589934592:Rat)*8589934592=1:=by decide +kernel
 rcases A with⟨-,e⟩|⟨x0,x1,A,-⟩|e
 ·grind
 ·rcases B with⟨e,-⟩|⟨y0,y1,B,-⟩|⟨-,e⟩
  ·grind
  ·refine gapX (c:=1/8589934592) ha (by omega) hb (by omega) x0 (by grind) y1 (by decide +kernel) (by grind) (by grind) A B ?_;have e2:p2 180=8589934592*2097152*p2 126:=by decide +kernel
   have e3:(1:Rat)<=p2 126:=by decide +kernel
   rw[e2];generalize (1/8589934592:Rat)=c at *
   generalize p2 126=Q at *
   have g:=xB e3 (show 0<=(v-u)*2097152 by grind);have e4:c*(v-u)*(8589934592*2097152*Q)=(c*8589934592)*((v-u)*2097152*Q):=by grind
   rw[e4,c0];grind
  ·grind
 ·grind
theorem fis_gap (hn:1<=n/\n<=16) (hm:1<=m/\m<=16) (hu:0<u) (hv:v<=64) (huv:1<=(v-u)*2097152):1<=(fisY (n:Int) (m:Int) v-fisY (n:Int) (m:Int) u)*8796093022208:=by
 obtain⟨a1,a2,a3⟩:=fis_y hn.1 hm.1 hu;obtain⟨b1,b2,b3⟩:=fis_y (x:=v) hn.1 hm.1 (by grind);have N1:(1:Rat)<=(n:Rat):=by exact_mod_cast hn.1
 have M1:(1:Rat)<=(m:Rat):=by exact_mod_cast hm.1
 have N2:(n:Rat)<=16:=by exact_mod_cast hn.2
 have M2:(m:Rat)<=16:=by exact_mod_cast hm.2
 generalize fisY (n:Int) (m:Int) v=y at *
 generalize fisY (n:Int) (m:Int) u=x at *
 generalize (n:Rat)=N at *
 generalize (m:Rat)=M at *
 have d:=xA N1 (show 0<=v-u by grind);have nu:0<N*u:=xt (by grind) hu;have nv:=mul_both N2 hv (by decide) (show 0<=v by grind);have s1:N*u+M<=1040:=by grind
 have s2:N*v+M<=1040:=by grind
 have X:1<=(1-x)*1040:=by
  have:=xB s1 (show 0<=1-x by grind);grind
 have k1:(y-x)*(N*v+M)=(1-x)*(N*(v-u)):=by grind
 have p1:1<=(1-x)*(N*(v-u))*(1040*2097152):=by
  have q:=mul_both X (show 1<=N*(v-u)*2097152 by grind) (show 0<=(1-x)*1040 by grind) (by decide);grind
 rw[<- k1]at p1;have y0:0<=y-x:=by
  refine yZ.1 fun g => ?_
  have:=xt (show 0<x-y by grind) (show 0<N*v+M by grind);grind
 have p2':=xB s2 y0;grind
theorem gap_F (hn:1<=n/\n<=16) (hm:1<=m/\m<=16) (hv:v<=64) (huv:1<=(v-u)*2097152) (l0:1<=l*8589934592) (h1:1<=(1-h)*8589934592) (A:LoF n m u l) (B:HiF n m v h):1<=(h-l)*p2 194:=by
 have c0:(1/8589934592:Rat)*8589934592=1:=by decide +kernel
 rcases A with⟨-,e⟩|⟨x0,A,-⟩
 ·grind
 ·rcases B with⟨e,-⟩|⟨y0,B,-⟩
  ·grind
  ·have g:=fis_gap hn hm x0 hv huv;obtain⟨a1,a2,-⟩:=fis_y hn.1 hm.1 x0;obtain⟨b1,b2,-⟩:=fis_y hn.1 hm.1 y0;refine gapX (c:=1/8589934592) hn.1 (by omega) hm.1 (by omega) a1 (by grind) b2 (by decide +kernel) (by grind) (by grind) A B ?_;have e2:p2 180=8589934592*8796093022208*p2 104:=by decide +kernel
   have e3:(1:Rat)<=p2 104:=by decide +kernel
   rw[e2];generalize (1/8589934592:Rat)=c at *
   generalize p2 104=Q at *
   generalize fisY (n:Int) (m:Int) v-fisY (n:Int) (m:Int) u=w at *
   have g:=xB e3 (show 0<=w*8796093022208 by grind);have e4:c*w*(8589934592*8796093022208*Q)=(c*8589934592)*(w*8796093022208*Q):=by grind
   rw[e4,c0];grind
end
end Go.Proofs.YtfknkoeagjonbaaGreat
namespace Go.Proofs.YtfknkoeagjonbaaGreat
open Go.Ev
section
variable {n:Nat} {x y l h u v w z:Rat}
theorem los_farG (hn:1<=n/\n<=16) (h0:0<y) (h1:y<1) (ht:1<=(1-y)*1152921504606846976) (A:LoS n 1 y l):1<=(1-l)*1125899906842624:=by
 rcases A with⟨k,A⟩|⟨k,B0,K,B⟩
 ·have g:=lo1_half hn h0 k A;have c:1<(1/2097152:Rat)*1125899906842624:=by decide +kernel
  generalize (1/2097152:Rat)=d at *
  grind
 ·have b:=B K (xQ K);unfold shG at b;have e1:pwR (1-y) 1=1-y:=by show 1*(1-y)=1-y;rw[xc]
  have e2:1-(1-y)=y:=by grind
  rw[e1,e2]at b;have u:=sR_up (x:=1-y) (a:=1) (b:=n) (by grind) (zj K);rw[show sR (1-y) 1 n 0=1 from rfl]at u;have uu:1<=sR (1-y) 1 n K*sR (1-y) 1 n K:=by
   have m:=xB u (show 0<=sR (1-y) 1 n K by grind);grind
  have p:=pwR_most (y:=y) (by grind) n;have q:((2^n:Nat):Rat)<=65536:=by
   have:2^n<=65536:=xH (xD (by omega) hn.2) (by decide);exact_mod_cast this
  have p0:=pwR_nn (q:=y) (xG h0) n;have p1:1<=pwR y n*65536:=xE p (xB q p0);have c:=(low_all hn).2;generalize sR (1-y) 1 n K*sR (1-y) 1 n K=S at *
  generalize pwR y n=P at *
  generalize fsC 1 n*fsC 1 n=C at *
  obtain⟨T,hT⟩ : ∃T,T=1-y:=⟨_,rfl⟩
  rw[<- hT]at b ht;have T0:0<=T:=by grind
  have C0:0<=C:=by grind
  have a1:1<=T*P*(1152921504606846976*65536):=by
   have:=xB p1 (show 0<=T*1152921504606846976 by grind);grind
  have a2:1<=T*P*S*(1152921504606846976*65536):=by
   have:=xB uu (show 0<=T*P*(1152921504606846976*65536) by grind);grind
  have a3:1<=C*(T*P*S)*(1152921504606846976*65536*1048576):=by
   have:=xB a2 (show 0<=C*1048576 by grind);grind
  obtain⟨D,hD⟩ : ∃D,D=1-l:=⟨_,rfl⟩
  rw[<- hD]at b B0 ⊢;generalize C*(T*P*S)=Z at *
  refine yZ.1 fun g => ?_
  have d1:D*D*1125899906842624<=D:=by
   have:=xB (xG g) B0;grind
  generalize D*D=E at *
  grind
theorem stu_farG (hn:1<=n/\n<=16) (hx:1<=x*x*17592186044416):1<=(1-stuY (n:Int) x)*1152921504606846976:=by
 have x0:x≠0:=by
  intro e;subst e;exact absurd hx (by decide +kernel)
 obtain⟨y0,y1,e⟩:=stu_y hn.1 x0;have N16:(n:Rat)<=16:=by exact_mod_cast hn.2
 have N1:(1:Rat)<=(n:Rat):=by exact_mod_cast hn.1
 generalize stuY (n:Int) x=y at *
 generalize (n:Rat)=N at *
 generalize x*x=u at *
 refine le_by (show 0<N+u by grind) ?_;grind
theorem stu_gapG (hn:1<=n/\n<=16) (hw:w≠0) (hz:z≠0) (hd:1<=(w*w-z*z)*17592186044416) (hw2:w*w<=4096):1<=(stuY (n:Int) z-stuY (n:Int) w)*1180591620717411303424:=by
 obtain⟨a1,a2,a3⟩:=stu_y hn.1 hw;obtain⟨b1,b2,b3⟩:=stu_y hn.1 hz;have N16:(n:Rat)<=16:=by exact_mod_cast hn.2
 have N1:(1:Rat)<=(n:Rat):=by exact_mod_cast hn.1
 have zz:=mul_self_nn z;generalize stuY (n:Int) w=x at *
 generalize stuY (n:Int) z=y at *
 generalize (n:Rat)=N at *
 generalize w*w=W at *
 generalize z*z=Z at *
 have k1:(y-x)*(N+W)=y*(W-Z):=by grind
 have Y:1<=y*4112:=by
  have:=xB (show N+Z<=4112 by grind) (xG b1);grind
 have q:=mul_both Y hd (show 0<=y*4112 by grind) (by decide);have d0:0<=y-x:=by
  refine yZ.1 fun g => ?_
  have p:=xt (show 0<x-y by grind) (show 0<N+W by grind);have r:=xF (xG b1) (show 0<=W-Z by grind);grind
 have p:=xB (show N+W<=4112 by grind) d0;rw[k1]at p;generalize y*(W-Z)=V at *
 grind
theorem pairS (hn:1<=n/\n<=16) (x0:0<x) (y1:y<1) (hd:1<=(y-x)*1180591620717411303424) (ht:1<=(1-x)*1152921504606846976) (l0:1<=l*8589934592) (A:LoS n 1 x l) (B:HiS n 1 y h):1<=(h-l)*p2 194:=by
 have xy:x<=y:=by grind
 have F:=los_farG hn x0 (by grind) ht A;have c0:(1/37778931862957161709568:Rat)*37778931862957161709568=1:=by decide +kernel
 by_cases g:h<=1-1/37778931862957161709568
 ·refine gapX (c:=1/37778931862957161709568) hn.1 (by omega) (by omega) (by omega) x0 xy y1 (by decide +kernel) (by generalize (1/37778931862957161709568:Rat)=c at *;grind) g A B ?_;have e2:p2 180=37778931862957161709568*1180591620717411303424*p2 35:=by decide +kernel
  have e3:(1:Rat)<=p2 35:=by decide +kernel
  rw[e2];generalize (1/37778931862957161709568:Rat)=c at *
  generalize p2 35=Q at *
  generalize y-x=e at *
  have k:=xB e3 (show 0<=e*1180591620717411303424 by grind);have e4:c*e*(37778931862957161709568*1180591620717411303424*Q)=(c*37778931862957161709568)*(e*1180591620717411303424*Q):=by grind
  rw[e4,c0];grind
 ·have e2:p2 194=37778931862957161709568*p2 119:=by decide +kernel
  have e3:(1:Rat)<=p2 119:=by decide +kernel
  rw[e2];generalize (1/37778931862957161709568:Rat)=c at *
  generalize p2 119=Q at *
  have k:=xB e3 (show 0<=(h-l)*37778931862957161709568 by grind);grind
theorem sq_far (h:1<=w*4194304):1<=w*w*17592186044416:=by
 have:=mul_both h h (show 0<=w*4194304 by grind) (by decide);grind
theorem sq_apart (h0:0<=z) (h:1<=(w-z)*4194304):1<=(w*w-z*z)*17592186044416:=by
 have a:=sq_far h;have b:=xF h0 (show 0<=w-z by grind);grind
theorem sq_most (h0:0<=w) (h:w<=64):w*w<=4096:=by
 have:=mul_both h h (by decide) h0;grind
theorem half_out {d Q c h l:Rat} (hh:c+c=1) (hd:1<=d*Q) (e:h-l=d*c):1<=(h-l)*(Q*2):=by
 rw[e,show d*c*(Q*2)=d*Q*(c+c) by grind,hh,yA];exact hd
theorem gap_V (hn:1<=n/\n<=16) (hu : -64<=u) (hv:v<=64) (huv:1<=(v-u)*2097152) (l0:1<=l*8589934592) (h1:1<=(1-h)*8589934592) (A:LoV n u l) (B:HiV n v h):1<=(h-l)*p2 195:=by
 have hh:(1/2:Rat)+1/2=1:=by decide +kernel
 have far : ∀ {x l:Rat},1<=x*x*17592186044416->LoS n 1 (stuY (n:Int) x) l->1<=(1-l)*1125899906842624:=by
  intro x l hx L;have x0:x≠0:=by rintro rfl;exact absurd hx (by decide +kernel)
  obtain⟨a1,a2,-⟩:=stu_y hn.1 x0;exact los_farG hn a1 a2 (stu_farG hn hx) L
 have one : ∀ {x l:Rat},x≠0->LoS n 1 (stuY (n:Int) x) l->l<=1:=fun hx L=>los_one hn (stu_y hn.1 hx).1 L
 have nsq : ∀x:Rat,-x * -x=x*x:=fun x=>by grind
 have e1:p2 195=p2 194*2:=by decide +kernel
 have e2:p2 194=1125899906842624*p2 144:=by decide +kernel
 have e3:(1:Rat)<=p2 144:=by decide +kernel
 have fin : ∀ {d:Rat},1<=d*1125899906842624->1<=d*p2 194:=by
  intro d hd;rw[e2];generalize p2 144=Q at *
  have k:=xB e3 (show 0<=d*1125899906842624 by grind);grind
 have h0:(0:Rat)<=1/2:=by decide +kernel
 rw[e1];clear e1 e2 e3;have tw : ∀ {z c:Rat},c+c=1->z*c*2=z:=by intro z c e;rw[show z*c*2=z*(c+c) by grind,e,yA]
 unfold LoV at A;unfold HiV at B;generalize (1/2:Rat)=c at *
 have out : ∀ {d h l:Rat},1<=d*p2 194->h-l=d*c->1<=(h-l)*(p2 194*2):=fun hd e=>half_out hh hd e
 rcases A with⟨e,rfl⟩|⟨e,l',A,dl,rfl⟩|⟨e,h',A,dl,rfl⟩<;>rcases B with⟨e',rfl⟩|⟨e',h',B,dh,rfl⟩|⟨e',l'',B,dh,rfl⟩
 ·grind
 ·grind
 ·have:=far (sq_far (w:=v) (by grind)) B;exact out (fin this) (by grind)
 ·have:=far (x:=u) (by rw[<- nsq];exact sq_far (by grind)) A;exact out (fin this) (by grind)
 ·have u0:u≠0:=by grind
  have v0:v≠0:=by grind
  have sq:=sq_apart (w := -u) (z := -v) (by grind) (by grind);have fu:=stu_farG (x:=u) hn (by rw[<- nsq];exact sq_far (by grind));rw[nsq,nsq]at sq;have mo:=sq_most (w := -u) (by grind) (by grind);rw[nsq]at mo;have k:=pairS hn (stu_y hn.1 u0).1 (stu_y hn.1 v0).2.1 (stu_gapG hn u0 v0 sq mo) fu (by have:=tw (z:=l') hh;clear far one fin out;grind) A B;exact out k (by grind)
 ·have a1:=one (by grind) A;have b1:=one (by grind) B;by_cases g:1<=v*4194304
  ·have:=far (sq_far g) B;exact out (d:=1-l'+(1-l'')) (fin (by grind)) (by grind)
  ·have:=far (x:=u) (by rw[<- nsq];exact sq_far (by grind)) A;exact out (d:=1-l'+(1-l'')) (fin (by grind)) (by grind)
 ·grind
 ·grind
 ·have u0:u≠0:=by grind
  have v0:v≠0:=by grind
  have sq:=sq_apart (w:=v) (z:=u) (by grind) (by grind);have fv:=stu_farG (x:=v) hn (sq_far (by grind));have k:=pairS hn (stu_y hn.1 v0).1 (stu_y hn.1 u0).2.1 (stu_gapG hn v0 u0 sq (sq_most (by grind) hv)) fv (by have:=tw (z:=l'') hh;clear far one fin out;grind) B A;exact out k (by grind)
end
end Go.Proofs.YtfknkoeagjonbaaGreat
namespace Go.Proofs.YtfknkoeagjonbaaGreat
open Go.Ev
section
variable {a b u v w x l h:Rat}
theorem gap_W (b0:0<b) (b1:b<=1048576) (hu:a-8*b<=u) (hv:v<=a+8*b) (huv:1<=(v-u)*2097152) (A:LoW a b u l) (B:HiW a b v h):1<=(h-l)*p2 195:=by
 obtain⟨g1,-,e1⟩:=div_ends (x:=u) b0 hu (by grind);obtain⟨-,g2,e2⟩:=div_ends (x:=v) b0 (by grind) hv;unfold LoW at A;unfold HiW at B;generalize (u-a)/b=y at *
 generalize (v-a)/b=z at *
 have d0:(z-y)*b=v-u:=by grind
 have yz:y<=z:=le_by b0 (by grind);have s:=share_grows g1 yz g2 A B;have G:2*gG*(2097152*1048576)<=p2 195:=by decide +kernel
 have G0:(0:Rat)<2*gG:=by decide +kernel
 generalize 2*gG=g at *
 generalize p2 195=P at *
 have m:=xB b1 (show 0<=z-y by grind);have m2:1<=(z-y)*(2097152*1048576):=by grind
 have m3:=xA s (show (0:Rat)<=2097152*1048576 by decide +kernel);have hl:0<=h-l:=by
  refine yZ.1 fun k => ?_
  have:=Rat.mul_lt_mul_of_pos_right k G0;grind
 have m4:=xB G hl;grind
theorem E_step {u w:Rat} (h0:0<=u) (h:u<=w) (L:Nat):w-u<=Ex.E w (L+2)-Ex.E u (L+2):=by
 induction L with
 |zero=>
  have e : ∀x:Rat,Ex.E x 2=1+x:=by
   intro x;show (0:Rat)+1+1*x/((0+1:Nat):Rat)=1+x;rw[show ((0+1:Nat):Rat)=1 from rfl,xk,show ((1:Rat))⁻¹=1 by decide +kernel];grind
  rw[e,e];grind
 |succ L ih=>
  have m:=Ex.tm_mono h0 h (L+2);show w-u<=Ex.E w (L+2)+Ex.tm w (L+2)-(Ex.E u (L+2)+Ex.tm u (L+2))
  grind
theorem gap_E (a0:1<=a*1048576) (huv:1<=(v-u)*2097152) (l0:1<=l*8589934592) (h1:1<=(1-h)*8589934592) (A:LoE a u l) (B:HiE a v h):1<=(h-l)*p2 195:=by
 rcases A with⟨-,e⟩|⟨x0,s,A⟩
 ·grind
 rcases B with⟨e,-⟩|⟨y0,t,B⟩
 ·grind
 have ap:0<a:=by grind
 have a1:=A (s+t+2) (by omega);have b1:=B (s+t+2) (by omega);have au:=xt ap x0;have av:=xt ap y0;have d:=mul_both a0 huv (show 0<=a*1048576 by grind) (by decide);have st:=E_step (u:=a*u) (w:=a*v) (xG au) (by grind) (s+t);have o:=E_one (x:=a*u) (xG au) (show 1<=s+t+2 by omega);have o2:=E_one (x:=a*v) (xG av) (show 1<=s+t+2 by omega);unfold evX at a1 b1;rw[if_pos (by grind),Rat.neg_neg]at a1 b1;have i1:Ex.E (a*u) (s+t+2)*(1/Ex.E (a*u) (s+t+2))=1:=Ex.mul_div _ 1 (by grind);have i2:Ex.E (a*v) (s+t+2)*(1/Ex.E (a*v) (s+t+2))=1:=Ex.mul_div _ 1 (by grind)
 have G:(8589934592*8589934592*(2097152*1048576):Rat)<=p2 195:=by decide +kernel
 clear A B;generalize p2 195=P at *
 generalize 1/Ex.E (a*u) (s+t+2)=p at *
 generalize 1/Ex.E (a*v) (s+t+2)=q at *
 generalize Ex.E (a*u) (s+t+2)=X at *
 generalize Ex.E (a*v) (s+t+2)=Y at *
 have q0:1<=q*8589934592:=by grind
 have pq:q<=p:=by
  refine yZ.1 fun k => ?_
  have p0:0<p:=by
   refine wv.1 fun k2 => ?_
   have:=xB k2 (show 0<=X by grind);grind
  have k1:=Rat.mul_lt_mul_of_pos_left k (show 0<X by grind);have k2:=xA (show X<=Y by grind) (show 0<=q by grind);grind
 have e:p-q=p*q*(Y-X):=by grind
 have m1:=mul_both (show 1<=p*8589934592 by grind) q0 (show 0<=p*8589934592 by grind) (by decide);have m2:1<=(Y-X)*(2097152*1048576):=by grind
 have m3:=mul_both m1 m2 (show 0<=p*8589934592*(q*8589934592) by grind) (by decide);have hl:p-q<=h-l:=by grind
 have m4:1<=(p-q)*(8589934592*8589934592*(2097152*1048576)):=by rw[e];grind
 have m5:=xB G (show 0<=h-l by grind);have m6:=xA hl (show (0:Rat)<=8589934592*8589934592*(2097152*1048576) by decide +kernel);grind
end
end Go.Proofs.YtfknkoeagjonbaaGreat
namespace Go.Proofs.YtfknkoeagjonbaaGreat
open Go.Ev
theorem mul_bothG {a b c d:Rat} (h1:a<=b) (h2:c<=d) (hb:0<=b) (hc:0<=c):a*c<=b*d:=
 xE (xA h1 hc) (xB h2 hb)
theorem wT_nn : ∀ (m:Nat) {x:Rat},0<=x->0<=wT m x
 |0,_,_=>by show (0:Rat)<=1;decide
 |1,x,h=>by
  have i0:0<=1/SQ:=Ex.div_nn (by decide) (by have:=SQ_one.1;grind);have:=xF h i0;show 0<=x*(1/SQ)*2;grind
 |m+2,x,h=>by
  have c:(0:Rat)<((m+2:Nat):Rat):=by exact_mod_cast Nat.succ_pos (m+1)
  have s:=wT_step m x;have p:=xF (wT_nn m h) (show 0<=x*x*2 by have:=xF h h;grind);refine yZ.1 fun g => ?_
  have:=Rat.mul_lt_mul_of_pos_left g c;rw[s]at this;grind
theorem wT_zero : ∀m:Nat,wT (m+1) 0=0
 |0=>by show (0:Rat)*(1/SQ)*2=0;grind
 |m+1=>by
  show wT m 0*(0*0*2)*((1:Nat):Rat)/((m+2:Nat):Rat)=0;rw[xk];grind
theorem wT_mono {x y:Rat} (h0:0<=x) (h1:x<=y) : ∀m:Nat,wT m x<=wT m y
 |0=>xN
 |1=>by
  have i0:0<=1/SQ:=Ex.div_nn (by decide) (by have:=SQ_one.1;grind);show x*(1/SQ)*2<=y*(1/SQ)*2;have:=xA h1 i0;grind
 |m+2=>by
  have a:=wT_mono h0 h1 m;have k:(0:Rat)<((m+2:Nat):Rat):=by exact_mod_cast Nat.succ_pos (m+1)
  have xx:0<=x*x*2:=by have:=xF h0 h0;grind
  have xy:x*x*2<=y*y*2:=by have:=mul_bothG h1 h1 (xE h0 h1) h0;grind
  refine le_by k ?_;rw[ya,wT_step m x,ya (wT (m+2) y),wT_step m y];exact mul_bothG a xy (wT_nn m (xE h0 h1)) xx
theorem wT_part {x y c:Rat} (h0:0<=x) (h1:x<=y) (hc:1<=c) (h:y<=c*x) : ∀m:Nat,wT m y<=pwR c m*wT m x
 |0=>by show (1:Rat)<=1*1;decide +kernel
 |1=>by
  have i0:0<=1/SQ:=Ex.div_nn (by decide) (by have:=SQ_one.1;grind);show y*(1/SQ)*2<=1*c*(x*(1/SQ)*2)
  have:=xA h i0;grind
 |m+2=>by
  have b:=wT_part h0 h1 hc h m;have k:(0:Rat)<((m+2:Nat):Rat):=by exact_mod_cast Nat.succ_pos (m+1)
  have s1:=wT_step m x;have wy:=wT_nn m (xE h0 h1);have cx:0<=c*x:=xF (by grind) h0;have y0:0<=y*y*2:=by have:=xF (xE h0 h1) (xE h0 h1);grind
  have yc:y*y*2<=c*c*(x*x*2):=by have:=mul_bothG h h cx (xE h0 h1);grind
  have e:pwR c (m+2)=pwR c m*c*c:=rfl;rw[e];refine le_by k ?_;have p:=mul_bothG b yc (xE wy b) y0;rw[ya,wT_step m y];have e2:pwR c m*c*c*wT (m+2) x*((m+2:Nat):Rat)=pwR c m*c*c*(((m+2:Nat):Rat)*wT (m+2) x):=by grind
  rw[e2,s1];have e3:pwR c m*wT m x*(c*c*(x*x*2))=pwR c m*c*c*(wT m x*(x*x*2)):=by grind
  rw[<- e3];exact p
theorem pw16:(List.range 15).all (fun m=>decide (pwR (16/15) m*(16/15)<=4))=true:=by decide +kernel
theorem wD_part {n:Nat} (hn:1<=n/\n<=16) {x y:Rat} (h0:0<=x) (h1:x<=y):wD n x<=wD n y/\(15*y<=16*x->wD n y<=4*wD n x):=by
 match n,hn with
 |1,_=>
  refine⟨xN,fun _ => ?_⟩;have i0:0<=1/SQ:=Ex.div_nn (by decide) (by have:=SQ_one.1;grind);show 8*(1/SQ*2)<=4*(8*(1/SQ*2))
  grind
 |m+2,hn=>
  have g0:=wT_nn m (x:=8*x) (by grind);constructor
  ·have a:=wT_mono (x:=8*x) (y:=8*y) (by grind) (by grind) m;show 128*x*wT m (8*x)<=128*y*wT m (8*y);exact mul_bothG (by grind) a (by grind) g0
  ·intro h;have c0:(16/15:Rat)*15=16:=by decide +kernel
   have P:=zJ.1 pw16 m (zX.2 (by omega));rw[decide_eq_true_eq]at P;have b:=wT_part (x:=8*x) (y:=8*y) (c:=16/15) (by grind) (by grind) (by decide +kernel) (by generalize (16/15:Rat)=c at *;have e:c*x*15=16*x:=by { rw[show c*x*15=c*15*x by grind,c0] };grind) m;show 128*y*wT m (8*y)<=4*(128*x*wT m (8*x))
   generalize (16/15:Rat)=c at *
   have yc:y<=c*x:=by have e:c*x*15=16*x:=by { rw[show c*x*15=c*15*x by grind,c0] };grind
   have gB:=wT_nn m (x:=8*y) (by grind);generalize wT m (8*y)=B at *
   generalize wT m (8*x)=A at *
   have m1:=mul_bothG yc b (xF (by grind) h0) (by grind);have m2:=xB P (xF h0 g0);grind
theorem grow_split {w b X H r:Rat} (w0:0<=w) (b1:r<=b) (b2:b<=2) (x1 : -H<=X) (x2:X<=H):w*r-H<=w*b+X/\w*b+X<=2*w+H:=by
 have a:=xB b1 w0;have c:=xB b2 w0;constructor<;>grind
theorem grow_fin {G1 G2 Fr Fx Fu W H R K d c u x r e:Rat} (kd0:0<=K*d) (K0:K=5070602400912917605986812821504) (tiny:K*d*2037035976334486086268445688409378161051468393665936250636140449354381299763336706183397376<=1) (hH:H=8192*(K*d)) (hR:K*R=1-K*d) (W0:0<=W) (u0:0<=u) (u1:u<=1) (x0:0<=x) (r0:0<=r) (rx:r<=x) (xu:1<=(u-x)*9007199254740992)
  (big:1<=G2*17179869184) (v1 : -(16*(K*d))<=G1-Fr) (v2:G1-Fr<=16*(K*d)) (w1 : -(16*(K*d))<=G2-Fu) (w2:G2-Fu<=16*(K*d)) (up:Fu<=(2*W+H)*u) (mono:Fr+H*r<=Fx+H*x) (hc:c*4=W*R) (steep:Fx+(c-H)*(u-x)<=Fu) (he:0<e) :
  (G1-e)*100433627766186892221372630771322662657637687111424552206336+1<=G2*100433627766186892221372630771322662657637687111424552206336:=by
 generalize hZ:K*d=Z at *
 have H0:0<=H:=by grind
 have a1:(2*W+H)*u<=2*W+H:=by
  have:=xB u1 (show 0<=2*W+H by grind);grind
 have a2:1<=W*68719476736:=by grind
 have a3:W<=c*(8*K):=by
  have e1:c*4*K=W*(1-Z):=by rw[hc,<- hR];grind
  have:=xB (show 1/2<=1-Z by have:(1/2:Rat)*2=1:=by { decide +kernel };generalize (1/2:Rat)=q at *;grind) W0;have h2:W*(1/2)*2=W:=by rw[zG,show (1/2:Rat)*2=1 by decide +kernel,yA]
  grind
 have c0:1<=c*(8*K)*68719476736:=by grind
 rw[K0]at c0;have a4:=mul_bothG c0 xu (by grind) (by decide);have a5:4<=c*(u-x)*100433627766186892221372630771322662657637687111424552206336:=by grind
 have a6:=xB (show u-x<=1 by grind) H0;have a7:=xB (show x-r<=1 by grind) H0;have a8:G1+c*(u-x)-16416*Z<=G2:=by grind
 generalize c*(u-x)=y at *
 grind
set_option maxHeartbeats 2000000 in
theorem igV_growsG {n:Nat} (hn:1<=n/\n<=16) {e:Rat} (he:0<e) :
  ∃N:Nat,∀L,N<=L -> ∀s t:Rat,0<=s->t<=8->1<=(t-s)*70368744177664->1<=igV n t (t*t) L*17179869184->(igV n s (s*s) L-e)*p2 196+1<=igV n t (t*t) L*p2 196:=by
 obtain⟨K,hK⟩ : ∃K:Rat,K=Ex.t2 102:=⟨_,rfl⟩
 have K1:1<=K:=by rw[hK];exact Ex.castle (show 1<=2^102 by decide +kernel)
 have Kp:0<K:=by grind
 have B0:(0:Rat)<p2 300:=p2_pos 300;obtain⟨d,hd0,hd1,hd2⟩ : ∃d:Rat,0<d/\K*d*p2 300<=1/\10000*(K*d)<=e:=by
  have E0:0<10000*K/e:=by rw[xk];exact xt (by grind) (zU.2 he)
  have ee:10000*K/e*e=10000*K:=xd (by grind);obtain⟨D,hD⟩ : ∃D,D=K*p2 300+10000*K/e:=⟨_,rfl⟩
  have KB:=xt Kp B0;have Dp:0<D:=by rw[hD];grind
  have i:D*(1/D)=1:=Ex.mul_div _ 1 (by grind);have ip:0<1/D:=by rw[xk,xc];exact zU.2 Dp
  refine⟨1/D,ip,?_,?_⟩
  ·have:=xA (show K*p2 300<=D by rw[hD];grind) (xG ip);rw[i]at this;grind
  ·have m:=xA (show 10000*K/e<=D by rw[hD];grind) (xG ip);rw[i]at m;have m2:=xA m (xG he);have q:10000*K/e*(1/D)*e=10000*(K*(1/D)):=by
    have:10000*K/e*(1/D)*e=10000*K/e*e*(1/D):=by grind
    rw[this,ee];grind
   rw[q,xc]at m2;exact m2
 obtain⟨N,hN⟩:=Ex.tm_small (y:=128) (by decide) hd0;have Kd0:0<=K*d:=xF (xG Kp) (xG hd0);have Bg:(1000000000000000000000:Rat)<=p2 300:=by decide +kernel
 have Kd1:K*d<=1:=by
  have:=xB (show (1:Rat)<=p2 300 by grind) Kd0;grind
 have dKd:d<=K*d:=by
  have:=xA K1 (xG hd0);grind
 refine⟨N+2,fun L hL s t s0 t8 st big => ?_⟩;obtain⟨r,hr⟩ : ∃r:Rat,s=8*r:=⟨s/8,by rw[Ex.mul_div _ _ (by decide)]⟩
 obtain⟨u,hu⟩ : ∃u:Rat,t=8*u:=⟨t/8,by rw[Ex.mul_div _ _ (by decide)]⟩
 have r0:0<=r:=by grind
 have ru:1<=(u-r)*562949953421312:=by grind
 have u1:u<=1:=by grind
 obtain⟨k,rfl⟩ : ∃k,L=k+1:=⟨L-1,by omega⟩
 have near:=fun (m n:Nat) (hm:N+1<=m) (v:Rat) (v0:0<=v) (v1:v<=1)=>fall_near (u:=v) (e:=d) (L:=m) (n:=n) v0 v1 (by omega) (fun j hj=>(hN j (by omega)).2) (hN m (by omega)).1
 obtain⟨F,hF⟩ : ∃F:Rat->Rat,F=fun v=>wA n (8*v) (k+1)*Ex.E (-64*(v*v)) (k+1):=⟨_,rfl⟩
 obtain⟨S,hS⟩ : ∃S:Rat->Rat,S=fun v=>wA n (8*v) (k+1)*(-128*v*Ex.E (-64*(v*v)) k)+(wD n v+128*v*wA n (8*v) k)*Ex.E (-64*(v*v)) (k+1):=⟨_,rfl⟩
 have dF:Dif F S:=by rw[hF,hS];exact dif_mul (dif_wA n hn.1 k) (dif_gE k)
 obtain⟨H,hH⟩ : ∃H:Rat,H=8192*(K*d):=⟨_,rfl⟩
 obtain⟨R,hR⟩ : ∃R:Rat,R=1/K-d:=⟨_,rfl⟩
 have H0:0<=H:=by rw[hH];grind
 have sl : ∀v,0<=v->v<=1->wD n v*R-H<=S v/\S v<=2*wD n v+H:=by
  intro v v0 v1;obtain⟨n1,n2,n3,n4,n5,n6,n7,n8⟩:=near k n (by omega) v v0 v1;obtain⟨g1,-,-,-,-,-,g7,g8⟩:=near (k+1) n (by omega) v v0 v1;rw[<- hK]at n6 n7 g7;have iK:K*(1/K)=1:=Ex.mul_div _ 1 (by grind);have hB:Ex.Bdd (Ex.E (-64*(v*v)) k) 2:=by
   obtain⟨a,b⟩:=n1;have p:0<=1/Ex.E (64*(v*v)) k:=xE (Ex.div_nn (by decide) Kp) n7;constructor<;>grind
  have r:=fall_rest (u:=v) (e:=d) (K:=K) (A:=wA n (8*v) k) (M:=gM k v) (T:=wT (n+2*k) (8*v)) (B:=Ex.E (-64*(v*v)) k) (A':=0) (T':=0) v0 v1 K1 (xG hd0) n5 n6 n2 n3 n4 hB xN (by grind) xN (by grind);have q:=rise_split (wD n v) (wA n (8*v) k) (wT (n+2*k) (8*v)) (Ex.E (-64*(v*v)) k) (gM k v) v;have q2:S v=wD n v*Ex.E (-64*(v*v)) (k+1)+128*v*(wA n (8*v) k*gM k v-wT (n+2*k) (8*v)*Ex.E (-64*(v*v)) k):=by rw[hS];exact q
  obtain⟨x4,x5⟩:=r;obtain⟨b1,b2⟩:=g1;rw[q2];have z:(0:Rat)*gM k v-0*Ex.E (-64*(v*v)) k=0:=by grind
  rw[z]at x4 x5;rw[<- hH]at x4 x5;refine grow_split (wD_nn n v0 v1) ?_ ?_ ?_ ?_
  ·rw[hR];grind
  ·grind
  ·generalize wA n (8*v) k*gM k v-wT (n+2*k) (8*v)*Ex.E (-64*(v*v)) k=Z at *
   grind
  ·generalize wA n (8*v) k*gM k v-wT (n+2*k) (8*v)*Ex.E (-64*(v*v)) k=Z at *
   grind
 have val : ∀ (v:Rat),0<=v->v<=1->Ex.Bdd (igV n (8*v) (8*v*(8*v)) (k+1)-F v) (16*(K*d)):=by
  intro v v0 v1;obtain⟨g1,g2,g3,g4,g5,g6,g7,g8⟩:=near (k+1) n (by omega) v v0 v1;obtain⟨q0,-⟩:=sq_unit v0 v1;rw[igV_sq,show 8*v*(8*v)=64*(v*v) by grind,evX_inv (by grind),hF];have b:=Ex.Bdd_mul (show Ex.Bdd (wA n (8*v) (k+1)) (16*K) from⟨by grind,by rw[hK];exact g6⟩) g1;obtain⟨b1,b2⟩:=b;show Ex.Bdd (wA n (8*v) (k+1)*(1/Ex.E (64*(v*v)) (k+1))-wA n (8*v) (k+1)*Ex.E (-64*(v*v)) (k+1)) (16*(K*d));constructor<;>grind
 have F0:F 0=0:=by
  obtain⟨m,rfl⟩ : ∃m,n=m+1:=⟨n-1,by omega⟩
  rw[hF];show wA (m+1) (8*0) (k+1)*_=0;rw[wA_is,wC,wT_zero,xw,xw]
 obtain⟨v1,v2⟩:=val r r0 (by grind);obtain⟨w1,w2⟩:=val u (by grind) u1;rw[hr,hu];rw[hu]at big;generalize igV n (8*r) (8*r*(8*r)) (k+1)=G1 at *
 generalize igV n (8*u) (8*u*(8*u)) (k+1)=G2 at *
 have u0:0<=u:=by grind
 have wu:=wD_nn n u0 u1;obtain⟨W,hW⟩ : ∃W:Rat,W=wD n u:=⟨_,rfl⟩
 rw[<- hW]at wu;have up:F u<=(2*W+H)*u:=by
  have f:=dif_mono (dif_add (dif_mul (dif_const (-1)) dF) (dif_mul (dif_const (2*W+H)) dif_id)) (x:=0) (y:=u) xN u0 u1 (fun v v0 vu=>by
   have a:=(sl v v0 (by grind)).2;have b:=(wD_part hn v0 vu).1;rw[<- hW]at b;show 0<=(-1*S v+0*F v)+((2*W+H)*1+0*v)
   grind)
  have f' : -1*F 0+(2*W+H)*0 <= -1*F u+(2*W+H)*u:=f;rw[F0]at f';grind
 obtain⟨x,x0,xr,xu,x15⟩ : ∃x:Rat,0<=x/\r<=x/\1<=(u-x)*9007199254740992/\15*u<=16*x:=by
  rcases zC (a:=r) (b:=15*u/16) with g|g
  ·have e16:15*u/16*16=15*u:=xd (by decide);generalize 15*u/16=y at *
   exact⟨y,by grind,g,by grind,by grind⟩
  ·have e16:15*u/16*16=15*u:=xd (by decide);generalize 15*u/16=y at *
   exact⟨r,r0,xN,by grind,by grind⟩
 have mono:F r+H*r<=F x+H*x:=by
  have f:=dif_mono (dif_add dF (dif_mul (dif_const H) dif_id)) (x:=r) (y:=x) r0 xr (by grind) (fun v v0 vx=>by
   have a:=(sl v (by grind) (by grind)).1;have b:=wD_nn n (v:=v) (by grind) (by grind);have R0:0<=R:=by
    have iK:K*(1/K)=1:=Ex.mul_div _ 1 (by grind);rw[hR];have:d<=1/K:=le_by Kp (by grind);grind
   have c:=xF b R0;show 0<=S v+(H*1+0*v)
   grind)
  exact f
 obtain⟨c,hc⟩ : ∃c:Rat,c*4=W*R:=⟨W*R/4,xd (by decide)⟩
 have steep:F x+(c-H)*(u-x)<=F u:=by
  have f:=dif_mono (dif_add dF (dif_mul (dif_const (H-c)) dif_id)) (x:=x) (y:=u) x0 (by grind) u1 (fun v v0 vu=>by
   have a:=(sl v (by grind) (by grind)).1;have b:=(wD_part hn (x:=v) (y:=u) (by grind) vu).2 (by grind);rw[<- hW]at b;have R0:0<=R:=by
    have iK:K*(1/K)=1:=Ex.mul_div _ 1 (by grind);rw[hR];have:d<=1/K:=le_by Kp (by grind);grind
   have q:=xA b R0;show 0<=S v+((H-c)*1+0*v)
   grind)
  have f':F x+(H-c)*x<=F u+(H-c)*u:=f;grind
 have iK:K*(1/K)=1:=Ex.mul_div _ 1 (by grind);have e4:K=5070602400912917605986812821504:=by rw[hK];decide +kernel
 have e5:p2 300=2037035976334486086268445688409378161051468393665936250636140449354381299763336706183397376:=by decide +kernel
 have e6:p2 196=100433627766186892221372630771322662657637687111424552206336:=by decide +kernel
 rw[e5]at hd1;rw[e6];exact grow_fin Kd0 e4 hd1 hH (by rw[hR];grind) wu u0 u1 x0 r0 xr xu big v1 v2 w1 w2 up mono hc steep he
end Go.Proofs.YtfknkoeagjonbaaGreat
namespace Go.Proofs.YtfknkoeagjonbaaGreat
open Go.Ev
theorem roots_apart {s t:Rat} (s0:0<=s) (s8:s<=8) (t0:0<=t) (t8:t<=8) (h:1<=(t*t-s*s)*4398046511104):1<=(t-s)*70368744177664:=by
 have e:t*t-s*s=(t-s)*(t+s):=by grind
 rw[e]at h;have d0:0<=t-s:=by
  refine yZ.1 fun g => ?_
  have:=xF (show 0<=s-t by grind) (show 0<=t+s by grind);grind
 have:=xB (show t+s<=16 by grind) d0;grind
theorem gapI {n:Nat} (hn:1<=n/\n<=16) {x y l h:Rat} (h0:0<=x) (hxy:1<=(y-x)*2199023255552) (h64:y<=64) (lb:1<=l*8589934592) (A:LoI n x l) (B:HiI n y h):1<=(h-l)*p2 198:=by
 obtain⟨lo1,hi1,l0,lh,l1,l2,en1⟩:=A;obtain⟨lo2,hi2,k0,kh,k1,k2,en2⟩:=B;obtain⟨C,hC⟩ : ∃C:Rat,C=32*Ex.t2 102:=⟨_,rfl⟩
 have C1:1<=C:=by rw[hC];decide +kernel
 have Cp:0<C:=by clear en1 en2;grind
 obtain⟨e,dl,e0,d0,sum⟩:=pos_splitG (show (0:Rat)<1/1606938044258990275541962092341162602522202993782792835301376 by decide +kernel) Cp;have g1:(1/1606938044258990275541962092341162602522202993782792835301376:Rat)*1606938044258990275541962092341162602522202993782792835301376=1:=by decide +kernel
 have cd:=xF (show 0<=C-1 by clear en1 en2;grind) (xG d0);have dls:dl*1606938044258990275541962092341162602522202993782792835301376<=1:=by clear en1 en2;generalize (1/1606938044258990275541962092341162602522202993782792835301376:Rat)=g at *;grind
 have sum2:(3*e+2*(C*dl))*401734511064747568885490523085290650630550748445698208825344<=1:=by clear en1 en2;generalize (1/1606938044258990275541962092341162602522202993782792835301376:Rat)=g at *;grind
 have e196:p2 196=100433627766186892221372630771322662657637687111424552206336:=by decide +kernel
 have e198:p2 198=401734511064747568885490523085290650630550748445698208825344:=by decide +kernel
 clear sum g1 cd;obtain⟨Ng,gr⟩:=igV_growsG hn e0;obtain⟨Nm,mo⟩:=igV_rises hn.1 e0;rw[e196]at gr;rw[e198];have fin : ∀ {G1 G2:Rat},l<=G1+C*dl+e->G2<=h+C*dl+e->G1<=G2+e->(1<=G2*17179869184->(G1-e)*100433627766186892221372630771322662657637687111424552206336+1<=G2*100433627766186892221372630771322662657637687111424552206336)->1<=(h-l)*401734511064747568885490523085290650630550748445698208825344:=by
  intro G1 G2 q1 q2 q3 q4;have c0:=xF (xG Cp) (xG d0);clear en1 en2 gr mo;have:=q4 (by clear q4;grind);clear q4;grind
 have x64:x<=64:=by clear en1 en2 gr mo;grind
 obtain⟨h',m1,m2,m3,m4⟩:=min8G l0 lh l1 l2 x64;obtain⟨s1,s2,q1,q2,q3,q4,q5,q6⟩:=root_near l0 m1 l1 m4 d0;obtain⟨h2,n1,n2,n3,n4⟩:=min8G k0 kh k1 k2 h64;obtain⟨t1,t2,p1,p2',p3,p4,p5,p6⟩:=root_near k0 n1 k1 n4 d0;have s10:0<=s1:=xE l0 q1;have s20:0<=s2:=xE s10 q2;have s28:s2<=8:=xE q3 m3;have s18:s1<=8:=xE q2 s28;have t10:0<=t1:=xE k0 p1;have t20:0<=t2:=xE t10 p2';have t28:t2<=8:=xE p3 n3;have t18:t1<=8:=xE p2' t28;rcases zO n with hp|hp
 ·obtain⟨Ne,ev⟩:=even_rises hp e0;obtain⟨L1,g1⟩:=en1 lo1 xN lh;obtain⟨L2,g2⟩:=en2 lo2 xN kh;obtain⟨L,hL⟩ : ∃L,L=L1+L2+Ne+Ng+Nm:=⟨_,rfl⟩
  have a1:=g1 L (by omega);have a2:=g2 L (by omega);have a3:=ev L (by omega) x (s2*s2) lo1 s2 h0 q5 (sq_bd s20 s28).2;have a4:=ev L (by omega) (t1*t1) y t1 lo2 (xF t10 t10) p4 h64;have st:=roots_apart s20 s28 t10 t18 (by clear en1 en2 gr mo ev g1 g2 fin;grind);have a5:=gr L (by omega) s2 t1 s20 t18 st;have a6:=mo L (by omega) s2 t1 s20 (by clear en1 en2 gr mo ev g1 g2 fin;grind) t18;have c0:=xF (xG Cp) (xG d0);exact fin (by clear en1 en2 gr mo ev g1 g2 fin;grind) (by clear en1 en2 gr mo ev g1 g2 fin;grind) a6 a5
 ·obtain⟨L1,g1⟩:=en1 s1 q1 (xE q2 (xE q3 m2));obtain⟨L2,g2⟩:=en2 t2 (xE p1 p2') (xE p3 n2);obtain⟨L,hL⟩ : ∃L,L=L1+L2+Ng+Nm+1:=⟨_,rfl⟩
  have a1:=g1 L (by omega);have a2:=odd_lip (n:=n) (x:=s1*s1) (y:=x) (s:=s1) (L:=L) hp (xF s10 s10) q4 x64 s10 s18;have a4:=odd_lip (n:=n) (x:=y) (y:=t2*t2) (s:=t2) (L:=L) hp (by clear en1 en2 gr mo g1 g2 fin;grind) p5 (sq_bd t20 t28).2 t20 t28;have a5:=g2 L (by omega);have a6:=xB (show x-s1*s1<=dl by clear en1 en2 gr mo g1 g2 fin;grind) (xG Cp);have a7:=xB (show t2*t2-y<=dl by clear en1 en2 gr mo g1 g2 fin;grind) (xG Cp);rw[<- hC]at a2 a4;have st:=roots_apart s10 s18 t20 t28 (by clear en1 en2 gr mo g1 g2 fin;grind);have a8:=gr L (by omega) s1 t2 s10 t28 st
  have a9:=mo L (by omega) s1 t2 s10 (by clear en1 en2 gr mo g1 g2 fin;grind) t28;exact fin (by clear en1 en2 gr mo g1 g2 fin;grind) (by clear en1 en2 gr mo g1 g2 fin;grind) a9 a8
theorem gap_G {n:Nat} (hn:1<=n/\n<=16) {r u v l h:Rat} (r0:1<=r*1048576) (hv:r*v<=64) (huv:1<=(v-u)*2097152) (l0:1<=l*8589934592) (A:LoG n r u l) (B:HiG n r v h):1<=(h-l)*p2 198:=by
 rcases A with⟨-,e⟩|⟨x0,A⟩
 ·grind
 ·rcases B with⟨e,-⟩|⟨y0,B⟩
  ·grind
  ·have rp:0<r:=by grind
   have d:=mul_both r0 huv (show 0<=r*1048576 by grind) (by decide);exact gapI hn (xG (xt rp x0)) (by grind) hv l0 A B
end Go.Proofs.YtfknkoeagjonbaaGreat
namespace Go.Proofs.YtfknkoeagjonbaaGreat
open Go.Ev
section
variable {k n m p:Int} {sa sb:Bool} {na da nb db:List Nat} {a b x l h:Rat}
theorem ends_normal (hA:RatA (ratV sa na da) a 2) (hB:RatA (ratV sb nb db) b 2):Go.Ev.Fn CX 41 [distV 1 n m sa na da sb nb db] (.tup [rv (a-8*b),rv (a+8*b)]):=by
 have i0:=ref2_Int 0;have i:=ref2_Int 8;have z8:=int_szR (n:=8);have zm:=szR_mul z8 (szR_of hB);have mu:=ref2_Mul (RatA_rv z8) hB;have sb':=ref2_Sub hA (RatA_rv zm);have ad:=ref2_Add hA (RatA_rv zm);rw[show ((8:Int):Rat)=8 from rfl]at i mu sb' ad;generalize (8:Rat)*b=y at *
 clear hA hB z8 zm;generalize a-y=u at *
 generalize a+y=w at *
 refine fni Tryz.f41 ?_;unfold Tryz.f41;repeat (first|simp only[go_sem]|simp (disch:=first|exact omg|fail) only[AX]|refine wki ?_|refine vpd 4 [] ?_|refine vpd 5 [] ?_|refine vpd 8 [] ?_|refine vpd 9 [] ?_|refine vpd 11 [] ?_|refine vpd 15 [] ?_|refine vpd 16 [] ?_|refine vfa ?_)
theorem ends_rate (hk:k=2\/k=3) (hA:RatA (ratV sa na da) a 2) (a0:0<a):Go.Ev.Fn CX 41 [distV k n m sa na da sb nb db] (.tup [rv 0,rv (64/a)]):=by
 have i0:=ref2_Int 0;have i:=ref2_Int 64;have dv:=ref2_Div (RatA_rv (int_szR (n:=64))) hA;rw[show ((64:Int):Rat)=64 from rfl]at i dv;rw[show ((0:Int):Rat)=0 from rfl]at i0;generalize (64:Rat)/a=w at *
 clear hA;rcases hk with rfl|rfl
 ·refine fni Tryz.f41 ?_;unfold Tryz.f41;repeat (first|simp only[go_sem]|simp (disch:=first|exact omg|fail) only[AX]|refine wki ?_|refine vpd 4 [] ?_|refine vpd 5 [] ?_|refine vpd 8 [] ?_|refine vpd 9 [] ?_|refine vpd 11 [] ?_|refine vpd 15 [] ?_|refine vpd 16 [] ?_|refine vfa ?_)
 ·refine fni Tryz.f41 ?_;unfold Tryz.f41;repeat (first|simp only[go_sem]|simp (disch:=first|exact omg|fail) only[AX]|refine wki ?_|refine vpd 4 [] ?_|refine vpd 5 [] ?_|refine vpd 8 [] ?_|refine vpd 9 [] ?_|refine vpd 11 [] ?_|refine vpd 15 [] ?_|refine vpd 16 [] ?_|refine vfa ?_)
theorem ends_fixed {lo hi:Int} (hk:(k=4/\lo=0/\hi=128)\/(k=5/\lo = -64/\hi=64)\/(k=6/\lo=0/\hi=64)\/(k=7/\lo=0/\hi=1):=by omega):Go.Ev.Fn CX 41 [distV k n m sa na da sb nb db] (.tup [rv (lo:Rat),rv (hi:Rat)]):=by
 have i0:=ref2_Int 0;have i:=ref2_Int lo;have j:=ref2_Int hi;generalize hu:(lo:Rat)=u at *
 generalize (hi:Rat)=w at *
 rcases hk with⟨rfl,rfl,rfl⟩|⟨rfl,rfl,rfl⟩|⟨rfl,rfl,rfl⟩|⟨rfl,rfl,rfl⟩
 ·rw[hu]at i0;clear hu;refine fni Tryz.f41 ?_;unfold Tryz.f41;repeat (first|simp only[go_sem]|simp (disch:=first|exact omg|fail) only[AX]|refine wki ?_|refine vpd 4 [] ?_|refine vpd 5 [] ?_|refine vpd 8 [] ?_|refine vpd 9 [] ?_|refine vpd 11 [] ?_|refine vpd 15 [] ?_|refine vpd 16 [] ?_|refine vfa ?_)
 ·refine fni Tryz.f41 ?_;unfold Tryz.f41;repeat (first|simp only[go_sem]|simp (disch:=first|exact omg|fail) only[AX]|refine wki ?_|refine vpd 4 [] ?_|refine vpd 5 [] ?_|refine vpd 8 [] ?_|refine vpd 9 [] ?_|refine vpd 11 [] ?_|refine vpd 15 [] ?_|refine vpd 16 [] ?_|refine vfa ?_)
 ·rw[hu]at i0;clear hu;refine fni Tryz.f41 ?_;unfold Tryz.f41;repeat (first|simp only[go_sem]|simp (disch:=first|exact omg|fail) only[AX]|refine wki ?_|refine vpd 4 [] ?_|refine vpd 5 [] ?_|refine vpd 8 [] ?_|refine vpd 9 [] ?_|refine vpd 11 [] ?_|refine vpd 15 [] ?_|refine vpd 16 [] ?_|refine vfa ?_)
 ·rw[hu]at i0;clear hu;refine fni Tryz.f41 ?_;unfold Tryz.f41;repeat (first|simp only[go_sem]|simp (disch:=first|exact omg|fail) only[AX]|refine wki ?_|refine vpd 4 [] ?_|refine vpd 5 [] ?_|refine vpd 8 [] ?_|refine vpd 9 [] ?_|refine vpd 11 [] ?_|refine vpd 15 [] ?_|refine vpd 16 [] ?_|refine vfa ?_)
end
structure Doc (d:SV) (Lo Hi:Tells) (c:Rat) (W:Nat) (lo0 hi0:Rat):Prop where
 en:Go.Ev.Fn CX 41 [d] (.tup [rv lo0,rv hi0])
 cdf : ∀x,(∃J,J<=140/\Dz c W J x)->szR x 20->lo0<=x->x<=hi0 -> ∀P:Nat,(P=100\/P=150) -> ∃l h:Rat,Go.Ev.Fn CX 42 [d,rv x,.int .i64 (P:Int)] (.tup [ballR l h,.int .i64 0])/\szR l 1300/\szR h 1300/\l<=h /\
  (∀u q,Lo x u->q<=u->q<1->q<=h)/\(∀u,Hi x u->l<=u)
 gap : ∀u v l h,lo0<=u->v<=hi0->1<=(v-u)*2097152->1<=l*8589934592->1<=(1-h)*8589934592->Lo u l->Hi v h->1<=(h-l)*p2 198
theorem up198 {d:Rat} {j:Nat} (h:1<=d*p2 j) (hj:j<=198:=by omega):1<=d*p2 198:=by
 have e:p2 198=p2 j*p2 (198-j):=by rw[<- p2_plus];congr 1;omega
 have o:(1:Rat)<=p2 (198-j):=by
  have:1<=2^(198-j):=Nat.one_le_two_pow;exact_mod_cast this
 rw[e,<- zG];have:=xB o (show 0<=d*p2 j by grind);grind
section
variable {n m:Nat} {kn km:Int} {sa sb:Bool} {na da nb db:List Nat} {a b x y l h:Rat}
theorem doc_I {Q:Nat} (zy:szR y 50) (hn:1<=n/\n<=16) (hm:1<=m/\m<=16) (hP:Q=100\/Q=150) (y0:0<y) (y1:y<1) :
  ∃l h:Rat,Go.Ev.Fn CX 62 [.int .i64 (n:Int),.int .i64 (m:Int),rv y,.int .i64 (Q:Int)] (.tup [ballR l h,.bool true])/\szR l 40/\szR h 40/\LoS n m y l/\HiS n m y h:=by
 obtain⟨E,rfl⟩ : ∃E,Q=E+20:=⟨Q-20,by omega⟩
 exact ref12_ballW (p:=E) (RatA_rv zy) (by omega) (by omega) hn.1 (by omega) hm.1 (by omega) (by omega) y0 y1
theorem zero_cdf {k p:Int} {Lo Hi:Tells} (f:Go.Ev.Fn CX 42 [distV k kn km sa na da sb nb db,rv 0,.int .i64 p] (.tup [ballR 0 0,.int .i64 0])) (hL : ∀u,Lo 0 u->u<=0) (hH : ∀u,Hi 0 u->0<=u) :
  ∃l h:Rat,Go.Ev.Fn CX 42 [distV k kn km sa na da sb nb db,rv 0,.int .i64 p] (.tup [ballR l h,.int .i64 0])/\szR l 1300/\szR h 1300/\l<=h/\(∀u q,Lo 0 u->q<=u->q<1->q<=h)/\(∀u,Hi 0 u->l<=u):=
 ⟨0,0,f,szR_zero,szR_zero,xN,fun u q L g _=>xE g (hL u L),hH⟩
theorem doc_beta (hA:RatA (ratV sa na da) a 2) (hB:RatA (ratV sb nb db) b 2) (hc:chkD 7 (n:Int) (m:Int) a b=0) (hn:1<=n/\n<=16) (hm:1<=m/\m<=16):Doc (distV 7 (n:Int) (m:Int) sa na da sb nb db) (LoB n m) (HiB n m) 0 1 0 1:=by
 refine⟨ends_fixed (lo:=0) (hi:=1),?_,fun u v l h _ hv huv l0 h1 A B=>up198 (gap_B hn.1 hn.2 hm.1 hm.2 hv huv l0 h1 A B)⟩;rintro x-zx x0 x1 P hP
 by_cases e0:x=0
 ·subst e0;exact zero_cdf (ref14_CZ hA hB hc) (fun u A=>by rcases A with⟨-,rfl⟩|⟨g,-⟩|g<;>grind) (fun u A=>by rcases A with⟨-,rfl⟩|⟨g,-⟩|⟨g,-⟩<;>grind)
 by_cases e1:x=1
 ·subst e1;exact⟨1,1,ref14_C7e hA hB hc,szR_mono one_len,szR_mono one_len,xN,fun u q _ _ g=>xG g,fun u A=>by rcases A with⟨g,-⟩|⟨-,g,-⟩|⟨-,g⟩<;>grind⟩
 have y0:0<x:=by grind
 have y1:x<1:=by grind
 obtain⟨l,h,f,z1,z2,A,B⟩:=doc_I (szR_mono zx) hn hm hP y0 y1;refine⟨l,h,ref14_C7 hA hB hc zx y0 y1 f,szR_mono z1,szR_mono z2,lo_hi A B,?_,?_⟩
 ·rintro u q (⟨g,-⟩|⟨-,-,U,-⟩|g) qu q1
  ·grind
  ·exact xE qu (lo_hi U B)
  ·grind
 ·rintro u (⟨g,-⟩|⟨-,-,U,-⟩|⟨g,-⟩)
  ·grind
  ·exact lo_hi A U
  ·grind
theorem doc_fisher (hA:RatA (ratV sa na da) a 2) (hB:RatA (ratV sb nb db) b 2) (hc:chkD 6 (n:Int) (m:Int) a b=0) (hn:1<=n/\n<=16) (hm:1<=m/\m<=16):Doc (distV 6 (n:Int) (m:Int) sa na da sb nb db) (LoF n m) (HiF n m) 0 1 0 64:=by
 refine⟨ends_fixed (lo:=0) (hi:=64),?_,fun u v l h _ hv huv l0 h1 A B=>up198 (gap_F hn hm hv huv l0 h1 A B)⟩;rintro x-zx x0 x1 P hP
 by_cases e0:x=0
 ·subst e0;exact zero_cdf (ref14_CZ hA hB hc) (fun u A=>by rcases A with⟨-,rfl⟩|⟨g,-⟩<;>grind) (fun u A=>by rcases A with⟨-,rfl⟩|⟨g,-⟩<;>grind)
 have y0:0<x:=by grind
 obtain⟨u0,u1,-⟩:=fis_y hn.1 hm.1 y0;obtain⟨l,h,f,z1,z2,A,B⟩:=doc_I (szR_mono (fisY_sz (n:=(n:Int)) (m:=(m:Int)) (by omega) (by omega) zx)) hn hm hP u0 u1;refine⟨l,h,ref14_C6 hA hB hc (by omega) (by omega) zx y0 f,szR_mono z1,szR_mono z2,lo_hi A B,?_,?_⟩
 ·rintro u q (⟨g,-⟩|⟨-,U,-⟩) qu q1
  ·grind
  ·exact xE qu (lo_hi U B)
 ·rintro u (⟨g,-⟩|⟨-,U,-⟩)
  ·grind
  ·exact lo_hi A U
theorem doc_student (hA:RatA (ratV sa na da) a 2) (hB:RatA (ratV sb nb db) b 2) (hc:chkD 5 (n:Int) km a b=0) (hn:1<=n/\n<=16):Doc (distV 5 (n:Int) km sa na da sb nb db) (LoV n) (HiV n) (-64) 1 (-64) 64:=by
 refine⟨ends_fixed (lo := -64) (hi:=64),?_,fun u v l h hu hv huv l0 h1 A B=>up198 (gap_V hn hu hv huv l0 h1 A B)⟩;rintro x-zx x0 x1 P hP
 have zy:=stuY_sz (n:=(n:Int)) (x:=x) (by omega) zx;have hf0:(0:Rat)<=1/2:=by decide +kernel
 have hf1:(1/2:Rat)+1/2=1:=by decide +kernel
 have up : ∀ {u v:Rat},u<=v->u*(1/2)<=v*(1/2):=fun g=>xA g hf0
 have sz : ∀ {u:Rat},szR u 40->szR (u*(1/2)) 1300/\szR (1-u*(1/2)) 1300:=fun z=>⟨szR_mono (szR_mul z hfQ_len),szR_mono (szR_sub one_len (szR_mul z hfQ_len))⟩
 by_cases e0:x=0
 ·subst e0;have e1:stuY (n:Int) 0=1:=by
   have n0:(n:Rat)≠0:=by
    have:(1:Rat)<=(n:Rat):=by exact_mod_cast hn.1
    grind
   unfold stuY;rw[wC,wi,zM,xk];exact Rat.mul_inv_cancel _ n0
  have f:=ref12_I_ends (a:=n) (b:=1) (pI:=(P:Int)) (RatA_rv one_len) (by omega) (by omega) hn.1 (by omega) (by omega) (by omega) (.inr rfl);rw[<- e1]at f;have g:=ref14_C5 (p:=(P:Int)) hA hB hc (by omega) zx (l:=1) (h:=1) (szR_mono one_len) (szR_mono one_len) xN (by rw[e1]at f ⊢;exact f);have e2:stuB 0 1 1=(1-1*(1/2),1-1*(1/2)):=by unfold stuB;rw[if_neg (by decide)]
  rw[e2]at g;have z:=(sz (szR_mono one_len (show 1<=40 by omega))).2;refine⟨_,_,g,z,z,xN,?_,?_⟩
  ·rintro u q (⟨-,rfl⟩|⟨g,-⟩|⟨g,-⟩) qu q1
   ·show q<=1-1*(1/2)
    generalize (1/2:Rat)=c at *;grind
   ·exact absurd g (by decide)
   ·exact absurd g (by decide)
  ·rintro u (⟨-,rfl⟩|⟨g,-⟩|⟨g,-⟩)
   ·show 1-1*(1/2)<=1/2;generalize (1/2:Rat)=c at *;grind
   ·exact absurd g (by decide)
   ·exact absurd g (by decide)
 obtain⟨y0,y1,-⟩:=stu_y hn.1 e0;obtain⟨l,h,f,z1,z2,A,B⟩:=doc_I (n:=n) (m:=1) (szR_mono zy) hn (by omega) hP y0 y1;have le:=lo_hi A B;have g:=ref14_C5 hA hB hc (by omega) zx (szR_mono z1) (szR_mono z2) le f;unfold stuB at g;by_cases xn:x<0
 ·rw[if_pos xn]at g;refine⟨_,_,g,(sz z1).1,(sz z2).1,up le,?_,?_⟩
  ·rintro u q (⟨e,-⟩|⟨-,l',U,-,rfl⟩|⟨e,-⟩) qu q1
   ·exact absurd e e0
   ·exact xE qu (up (lo_hi U B))
   ·grind
  ·rintro u (⟨e,-⟩|⟨-,l',U,-,rfl⟩|⟨e,-⟩)
   ·exact absurd e e0
   ·exact up (lo_hi A U)
   ·grind
 ·rw[if_neg xn]at g;have u1:=up le;refine⟨_,_,g,(sz z2).2,(sz z1).2,by show 1-h*(1/2)<=1-l*(1/2);grind,?_,?_⟩
  ·rintro u q (⟨e,-⟩|⟨e,-⟩|⟨-,l',U,-,rfl⟩) qu q1
   ·exact absurd e e0
   ·exact absurd e xn
   ·have:=up (lo_hi A U);show q<=1-l*(1/2)
    grind
  ·rintro u (⟨e,-⟩|⟨e,-⟩|⟨-,l',U,-,rfl⟩)
   ·exact absurd e e0
   ·exact absurd e xn
   ·have:=up (lo_hi U B);show 1-h*(1/2)<=1-l'*(1/2)
    grind
theorem igI_meet {x:Rat} (A:LoI n x l) (B:HiI n x h):l<=h:=by
 obtain⟨lo,hi,l0,lh,l1,l2,e1⟩:=A;obtain⟨lo',hi',k0,kh,k2,k3,e2⟩:=B;have h1:lo<=hi':=sq_mono l0 (xE k0 kh) (xE l1 k3);have h2:lo'<=hi:=sq_mono k0 (xE l0 lh) (xE k2 l2);obtain⟨t,t1,t2,t3,t4⟩ : ∃t:Rat,lo<=t/\t<=hi/\lo'<=t/\t<=hi':=by
  rcases zC (a:=lo) (b:=lo') with g|g
  ·exact⟨lo',g,h2,xN,kh⟩
  ·exact⟨lo,xN,lh,g,h1⟩
 obtain⟨L1,g1⟩:=e1 t t1 t2;obtain⟨L2,g2⟩:=e2 t t3 t4;exact xE (g1 (L1+L2) (by omega)) (g2 (L1+L2) (by omega))
theorem doc_P {Q:Nat} (zy:szR y 7) (hn:1<=n/\n<=16) (hP:Q=100\/Q=150) (y0:0<y) (y1:y<=64) :
  ∃l h:Rat,Go.Ev.Fn CX 101 [.int .i64 (n:Int),rv y,.int .i64 (Q:Int)] (.tup [ballR l h,.bool true])/\szR l 1300/\szR h 1300/\LoI n y l/\HiI n y h:=by
 obtain⟨l,h,lo,hi,f,z1,z2,l0,h0,l1,l2,en⟩:=ref11_P (n:=n) (p:=Q) (RatA_rv (szR_mono zy (show 7<=240 by omega))) y0 y1 hn.1;have lh:lo<=hi:=sq_mono l0 h0 (xE l1 l2);refine⟨l,h,f,szR_mono z1,szR_mono z2,⟨lo,hi,l0,lh,l1,l2,fun s q1 q2 => ?_⟩,⟨lo,hi,l0,lh,l1,l2,fun s q1 q2 => ?_⟩⟩
 ·obtain⟨L0,g⟩:=en s q1 q2;exact⟨L0,fun L hL=>(g L hL).1⟩
 ·obtain⟨L0,g⟩:=en s q1 q2;exact⟨L0,fun L hL=>(g L hL).2⟩
theorem doc_gamma (hA:RatA (ratV sa na da) a 2) (hB:RatA (ratV sb nb db) b 2) (hc:chkD 3 (n:Int) km a b=0) (hw:wideD 3 a b=false) (a0:0<a) (hn:1<=n/\n<=16) {N D:Nat} (N0:0<N) (D0:0<D) (D1:D<18446744073709551616) (e:a*(D:Rat)=(N:Rat)) :
  Doc (distV 3 (n:Int) km sa na da sb nb db) (LoG n a) (HiG n a) 0 N 0 (64/a):=by
 have hw' : ¬a<mkRat 1 (2^20):=of_decide_eq_false hw;have bt:mkRat 1 (2^20)*1048576=1:=by decide +kernel
 obtain⟨g1,g2,g3⟩:=rate_ends a0 hw';have ax : ∀ {x:Rat},x<=64/a->a*x<=64:=fun g=>by
  have:=xB g (xG a0);rwa [g3]at this
 refine⟨ends_rate (.inr rfl) hA a0,?_,fun u v l h _ hv huv l0 h1 A B=>gap_G hn (by generalize mkRat 1 (2^20)=t at *;grind) (ax hv) huv l0 A B⟩;rintro x ⟨J,hJ,hx⟩ zx x0 x1 P hP
 by_cases e0:x=0
 ·subst e0;exact zero_cdf (ref14_CZ hA hB hc) (fun u A=>by rcases A with⟨-,rfl⟩|⟨g,-⟩<;>grind) (fun u A=>by rcases A with⟨-,rfl⟩|⟨g,-⟩<;>grind)
 have y0:0<x:=by grind
 have p0:=xt a0 y0;obtain⟨l,h,f,z1,z2,A,B⟩:=doc_P (n:=n) (rate_sz N0 D0 D1 e hJ hx (xG p0) (ax x1)) hn hP p0 (ax x1);refine⟨l,h,ref14_C3 hA hB hc zx y0 f,z1,z2,igI_meet A B,?_,?_⟩
 ·rintro u q (⟨g,-⟩|⟨-,U⟩) qu q1
  ·grind
  ·exact xE qu (igI_meet U B)
 ·rintro u (⟨g,-⟩|⟨-,U⟩)
  ·grind
  ·exact igI_meet A U
theorem doc_chi (hA:RatA (ratV sa na da) a 2) (hB:RatA (ratV sb nb db) b 2) (hc:chkD 4 (n:Int) km a b=0) (hn:1<=n/\n<=16):Doc (distV 4 (n:Int) km sa na da sb nb db) (LoG n (1/2)) (HiG n (1/2)) 0 1 0 128:=by
 have h2:(1/2:Rat)*((2:Nat):Rat)=((1:Nat):Rat):=by decide +kernel
 have hf:(0:Rat)<1/2:=by decide +kernel
 have hf2:(1/2:Rat)*128=64:=by decide +kernel
 have ax : ∀ {x:Rat},x<=128->1/2*x<=64:=fun g=>by
  have:=xB g (xG hf);rwa [hf2]at this
 refine⟨ends_fixed (lo:=0) (hi:=128),?_,fun u v l h _ hv huv l0 h1 A B=>gap_G hn (by decide +kernel) (ax hv) huv l0 A B⟩;rintro x ⟨J,hJ,hx⟩ zx x0 x1 P hP
 by_cases e0:x=0
 ·subst e0;exact zero_cdf (ref14_CZ hA hB hc) (fun u A=>by rcases A with⟨-,rfl⟩|⟨g,-⟩<;>grind) (fun u A=>by rcases A with⟨-,rfl⟩|⟨g,-⟩<;>grind)
 have y0:0<x:=by grind
 have p0:=xt hf y0;obtain⟨l,h,f,z1,z2,A,B⟩:=doc_P (n:=n) (rate_sz (a:=1/2) (N:=1) (D:=2) (by omega) (by omega) (by omega) h2 hJ hx (xG p0) (ax x1)) hn hP p0 (ax x1);have e:x/2=1/2*x:=by rw[xk,xk,xc,ya]
 refine⟨l,h,ref14_C4 hA hB hc zx y0 (by rw[e];exact f),z1,z2,igI_meet A B,?_,?_⟩
 ·rintro u q (⟨g,-⟩|⟨-,U⟩) qu q1
  ·grind
  ·exact xE qu (igI_meet U B)
 ·rintro u (⟨g,-⟩|⟨-,U⟩)
  ·grind
  ·exact igI_meet A U
theorem doc_expo (hA:RatA (ratV sa na da) a 2) (hB:RatA (ratV sb nb db) b 2) (hc:chkD 2 kn km a b=0) (hw:wideD 2 a b=false) (a0:0<a) {N:Nat}:Doc (distV 2 kn km sa na da sb nb db) (LoE a) (HiE a) 0 N 0 (64/a):=by
 have hw' : ¬a<mkRat 1 (2^20):=of_decide_eq_false hw;have bt:mkRat 1 (2^20)*1048576=1:=by decide +kernel
 obtain⟨g1,g2,g3⟩:=rate_ends a0 hw';have ax : ∀ {x:Rat},x<=64/a->a*x<=64:=fun g=>by
  have:=xB g (xG a0);rwa [g3]at this
 refine⟨ends_rate (.inl rfl) hA a0,?_,fun u v l h _ hv huv l0 h1 A B=>up198 (gap_E (by generalize mkRat 1 (2^20)=t at *;grind) huv l0 h1 A B)⟩;rintro x-zx x0 x1 P hP
 by_cases e0:x=0
 ·subst e0;exact zero_cdf (ref14_CZ hA hB hc) (fun u A=>by rcases A with⟨-,rfl⟩|⟨g,-⟩<;>grind) (fun u A=>by rcases A with⟨-,rfl⟩|⟨g,-⟩<;>grind)
 have y0:0<x:=by grind
 have p0:=xt a0 y0;have zm:=szR_mul (szR_of hA) zx;obtain⟨A,B,ab,hb,f,s,en⟩:=ref6_Iv (w:=P+20) (RatA_rv (szR_neg zm)) (by omega) (by omega) (show -(a*x)<=0 by grind) (by have:=ax x1;grind);have lB:=lim_len_p2k hb;clear hb;have lA:=lim_len_mono ab;have lp:=lim_len_p2k (n:=2^(P+20)) (w:=P+20) (xQ _);have s1:=mk_in (en s (xQ _));refine⟨_,_,ref14_C2 (w:=P) hA hB hc zx y0 (ax x1) rfl (by omega) (by omega) (by omega) f,szR_mono (szR_sub one_len (szR_nat (n:=B) (L:=200))),szR_mono (szR_sub one_len (szR_nat (n:=A) (L:=200))),by grind,?_,?_⟩
 ·rintro u q (⟨g,-⟩|⟨-,t,U⟩) qu q1
  ·grind
  ·have a1:=U (s+t) (by omega);have a2:=(mk_in (en (s+t) (by omega))).1;grind
 ·rintro u (⟨g,-⟩|⟨-,t,U⟩)
  ·grind
  ·have a1:=U (s+t) (by omega);have a2:=(mk_in (en (s+t) (by omega))).2;grind
end
end Go.Proofs.YtfknkoeagjonbaaGreat
namespace Go.Proofs.YtfknkoeagjonbaaGreat
open Go.Ev
section
variable {sa sb:Bool} {na da nb db:List Nat} {a:Rat} {x y:Rat}
end
end Go.Proofs.YtfknkoeagjonbaaGreat
namespace Go.Proofs.YtfknkoeagjonbaaGreat
open Go.Ev
section
variable {n:Nat} {m:Int} {x:Rat}
end
end Go.Proofs.YtfknkoeagjonbaaGreat
namespace Go.Proofs.YtfknkoeagjonbaaGreat
open Go.Ev
end Go.Proofs.YtfknkoeagjonbaaGreat
namespace Go.Proofs.YtfknkoeagjonbaaGreat
open Go.Ev
section
variable {k n m:Int} {sa sb:Bool} {na da nb db:List Nat}
theorem large15_G : ∃lg,Go.Ev.Fn CX 6 [distV k n m sa na da sb nb db] (.bool lg)/\(lg=false->(na.length<=2/\da.length<=2/\nb.length<=2/\db.length<=2)/\(k≠8->(n<=16\/256<n)/\(m<=16\/256<m))):=by
 by_cases h1:2<na.length
 ·refine⟨true,?_,fun h=>by cases h⟩;refine fni Tryz.f6 ?_;unfold Tryz.f6;repeat (first|simp only[go_sem]|simp (disch:=first|exact omg|fail) only[AX]|refine wki ?_)
 by_cases h2:2<da.length
 ·refine⟨true,?_,fun h=>by cases h⟩;refine fni Tryz.f6 ?_;unfold Tryz.f6;repeat (first|simp only[go_sem]|simp (disch:=first|exact omg|fail) only[AX]|refine wki ?_)
 by_cases h3:2<nb.length
 ·refine⟨true,?_,fun h=>by cases h⟩;refine fni Tryz.f6 ?_;unfold Tryz.f6;repeat (first|simp only[go_sem]|simp (disch:=first|exact omg|fail) only[AX]|refine wki ?_)
 by_cases h4:2<db.length
 ·refine⟨true,?_,fun h=>by cases h⟩;refine fni Tryz.f6 ?_;unfold Tryz.f6;repeat (first|simp only[go_sem]|simp (disch:=first|exact omg|fail) only[AX]|refine wki ?_)
 by_cases h5:k=8
 ·by_cases h6:8<n
  ·refine⟨decide (n<=256),?_,fun _=>⟨by omega,fun h=>absurd h5 h⟩⟩;refine fni Tryz.f6 ?_;unfold Tryz.f6;repeat (first|simp only[go_sem]|simp (disch:=first|exact omg|fail) only[AX]|refine wki ?_)
  ·refine⟨false,?_,fun _=>⟨by omega,fun h=>absurd h5 h⟩⟩;refine fni Tryz.f6 ?_;unfold Tryz.f6;repeat (first|simp only[go_sem]|simp (disch:=first|exact omg|fail) only[AX]|refine wki ?_)
 ·by_cases h6:16<n/\n<=256
  ·refine⟨true,?_,fun h=>by cases h⟩;obtain⟨h6,h7⟩:=h6;refine fni Tryz.f6 ?_;unfold Tryz.f6;repeat (first|simp only[go_sem]|simp (disch:=first|exact omg|fail) only[AX]|refine wki ?_)
  ·have h7:(decide (16<n)&&decide (n<=256))=false:=by rw[<- Bool.decide_and];exact decide_eq_false h6
   by_cases h8:16<m
   ·refine⟨decide (m<=256),?_,fun h=>⟨by omega,fun _=>⟨by omega,by have:=of_decide_eq_false h;omega⟩⟩⟩;by_cases h9:16<n
    ·refine fni Tryz.f6 ?_;unfold Tryz.f6;repeat (first|simp only[go_sem]|simp (disch:=first|exact omg|fail) only[AX]|refine wki ?_)
    ·refine fni Tryz.f6 ?_;unfold Tryz.f6;repeat (first|simp only[go_sem]|simp (disch:=first|exact omg|fail) only[AX]|refine wki ?_)
   ·refine⟨false,?_,fun _=>⟨by omega,fun _=>⟨by omega,by omega⟩⟩⟩;by_cases h9:16<n
    ·refine fni Tryz.f6 ?_;unfold Tryz.f6;repeat (first|simp only[go_sem]|simp (disch:=first|exact omg|fail) only[AX]|refine wki ?_)
    ·refine fni Tryz.f6 ?_;unfold Tryz.f6;repeat (first|simp only[go_sem]|simp (disch:=first|exact omg|fail) only[AX]|refine wki ?_)
end
section
variable {k n m e f g h p:Int} {sa sb sq sr:Bool} {na da nb db nq dq nr dr:List Nat} {a b q r:Rat}
abbrev ballX6 (s1:Bool) (x1 y1:List Nat) (s2:Bool) (x2 y2:List Nat):SV := .agg [.bool s1,natV x1,natV y1,.bool s2,natV x2,natV y2]
theorem no_is {x:Nat} {ts:List SV} (h:Go.Ev.Fn CX x ts (.tup [noB,.int .i64 e])):Go.Ev.Fn CX x ts (.tup [ballX6 false [] [] false [] [],.int .i64 e]):=h
theorem no_of {x:Nat} {ts:List SV} {u w:Rat} (h:Go.Ev.Fn CX x ts (ofV false u w)):Go.Ev.Fn CX x ts (.tup [ballX6 false [] [] false [] [],.int .i64 7]):=h
theorem srg_at {Lo Hi:Tells} {c lo0 hi0 lo hi:Rat} {W k':Nat} (F:Fam (p2 200) (distV k n m sa na da sb nb db) Lo Hi c W lo0 hi0) (S:SrG Lo Hi q c W lo0 hi0 k' lo hi) (hk:k'<=114:=by omega):szR lo 20/\szR hi 20:=by
 obtain⟨g1,g2⟩:=srg_ends S;have lt:=S.lt;exact⟨srg_sz (q:=q) S.dlo (by omega) F.W0 F.hW F.zc F.hl F.hh g1 (by grind),srg_sz (q:=q) S.dhi (by omega) F.W0 F.hW F.zc F.hl F.hh (by grind) g2⟩
end
end Go.Proofs.YtfknkoeagjonbaaGreat
namespace Go.Proofs.YtfknkoeagjonbaaGreat
open Go.Ev
section
variable {n m:Int} {sa sb:Bool} {na da nb db:List Nat} {a b x z l h:Rat}
theorem arV_none {r:Rat} {L:Nat}:arV 0 (0*0) (0*0/2) r L=0:=by
 unfold arV;rw[xw,xw,xw]
theorem doc_Phi {Q:Nat} (hz:szR z 7) (h1 : -8<=z) (h8:z<=8) (hP:Q=100\/Q=150) :
  ∃l h:Rat,Go.Ev.Fn CX 96 [rv z,.int .i64 (Q:Int)] (.tup [ballR l h,.bool true])/\szR l 1300/\szR h 1300/\l<=h/\(∀u,LoN z u->u<=h)/\(∀u,HiN z u->l<=u):=by
 have G0:(0:Rat)<2*gG:=by decide +kernel
 have self : ∀ {u w:Rat},LoN z u->HiN z w->u<=w:=by
  intro u w A B;have s:=share_grows h1 xN h8 A B;rw[zg]at s;generalize 2*gG=g at *
  refine yZ.1 fun k => ?_
  have:=Rat.mul_lt_mul_of_pos_right (show 0<u-w by grind) G0;grind
 by_cases zn:z<0
 ·obtain⟨c,d,r1,r2,f,z1,z2,a0,b0,a1,a2,en⟩:=ref10_Phi (neg:=true) (z := -z) (p:=Q) (v:=rv z) (by show RatA (rv z) (- -z) 7;rw[Rat.neg_neg];exact RatA_rv hz) (by grind) (by grind);have R:RtP r1 r2:=⟨a0,root_le a0 b0 a1 a2,a1,a2⟩
  have B:HiN z d:=by
   refine .inr (.inr ⟨zn,r1,r2,R,fun r q1 q2 => ?_⟩);obtain⟨t,ht⟩:=en r q1 q2;refine⟨t,fun L hL => ?_⟩;have:=(ht L hL).2;rw[if_pos rfl]at this;generalize (1/2:Rat)=e at *
   grind
  have A:LoN z c:=by
   refine .inr (.inr ⟨zn,r1,r2,R,fun r q1 q2 => ?_⟩);obtain⟨t,ht⟩:=en r q1 q2;refine⟨t,fun L hL => ?_⟩;have:=(ht L hL).1;rw[if_pos rfl]at this;generalize (1/2:Rat)=e at *
   grind
  exact⟨c,d,f,szR_mono z1,szR_mono z2,self A B,fun u U=>self U B,fun u U=>self A U⟩
 ·obtain⟨c,d,r1,r2,f,z1,z2,a0,b0,a1,a2,en⟩:=ref10_Phi (neg:=false) (z:=z) (p:=Q) (v:=rv z) (RatA_rv hz) (by grind) h8;have R:RtP r1 r2:=⟨a0,root_le a0 b0 a1 a2,a1,a2⟩
  by_cases z0:z=0
  ·subst z0;obtain⟨t,ht⟩:=en r1 xN R.le;have g:=ht t (xQ _);rw[if_neg (by decide),arV_none,wi]at g;refine⟨c,d,f,szR_mono z1,szR_mono z2,xE g.1 g.2,?_,?_⟩
   ·rintro u (⟨-,rfl⟩|⟨k,-⟩|⟨k,-⟩)
    ·exact g.2
    ·exact absurd k (by decide)
    ·exact absurd k (by decide)
   ·rintro u (⟨-,rfl⟩|⟨k,-⟩|⟨k,-⟩)
    ·exact g.1
    ·exact absurd k (by decide)
    ·exact absurd k (by decide)
  have zp:0<z:=by grind
  have B:HiN z d:=by
   refine .inr (.inl ⟨zp,r1,r2,R,fun r q1 q2 => ?_⟩);obtain⟨t,ht⟩:=en r q1 q2;refine⟨t,fun L hL => ?_⟩;have:=(ht L hL).2;rw[if_neg (by decide)]at this;generalize (1/2:Rat)=e at *
   grind
  have A:LoN z c:=by
   refine .inr (.inl ⟨zp,r1,r2,R,fun r q1 q2 => ?_⟩);obtain⟨t,ht⟩:=en r q1 q2;refine⟨t,fun L hL => ?_⟩;have:=(ht L hL).1;rw[if_neg (by decide)]at this;generalize (1/2:Rat)=e at *
   grind
  exact⟨c,d,f,szR_mono z1,szR_mono z2,self A B,fun u U=>self U B,fun u U=>self A U⟩
theorem doc_normal (hA:RatA (ratV sa na da) a 2) (hB:RatA (ratV sb nb db) b 2) (hc:chkD 1 n m a b=0) (hw:wideD 1 a b=false) (b0:0<b) {N D:Nat} (N0:0<N) (N1:N<18446744073709551616) (e:b*(D:Rat)=(N:Rat)) :
  Doc (distV 1 n m sa na da sb nb db) (LoW a b) (HiW a b) (a-8*b) D (a-8*b) (a+8*b):=by
 have hw' : ¬1048576<b:=of_decide_eq_false hw;refine⟨ends_normal hA hB,?_,fun u v l h hu hv huv _ _ A B=>up198 (gap_W b0 (yZ.1 hw') hu hv huv A B)⟩;rintro x ⟨J,hJ,hx⟩ zx x0 x1 P hP
 obtain⟨g1,g2,g3⟩:=div_ends b0 x0 x1;obtain⟨l,h,f,z1,z2,le,k1,k2⟩:=doc_Phi (norm_sz N0 N1 e hJ hx g1 g2 g3) g1 g2 hP;exact⟨l,h,ref14_C1 hA hB hc zx f,z1,z2,le,fun u q U qu _=>xE qu (k1 u U),k2⟩
end
section
variable {k n m:Int} {sa sb:Bool} {na da nb db:List Nat} {a b q:Rat} {v:SV} {Lo Hi:Tells} {c lo0 hi0 lo hi:Rat} {W:Nat}
theorem doc_any (hA:RatA (ratV sa na da) a 2) (hB:RatA (ratV sb nb db) b 2) (hc:chkD k n m a b=0) (ht:cntD k n m a b=false) (hw:wideD k a b=false) (hn:k≠8->(n<=16\/256<n)/\(m<=16\/256<m)) :
  ∃Lo Hi c W lo0 hi0,Fam (p2 200) (distV k n m sa na da sb nb db) Lo Hi c W lo0 hi0/\Doc (distV k n m sa na da sb nb db) Lo Hi c W lo0 hi0:=by
 obtain⟨i,g⟩:=chk_zero hc;rcases kinds k with rfl|rfl|rfl|rfl|rfl|rfl|rfl|rfl|rfl|⟨k1,k2,k3,k4,k5,k6,k7,k8,k9⟩
 ·have b0:0<b:=of_decide_eq_true i;obtain⟨N,W,⟨N0,-,N1,-,e⟩,F⟩:=fam_normal hA hB hc hw b0;exact⟨_,_,_,W,_,_,F,doc_normal hA hB hc hw b0 N0 N1 e⟩
 ·have a0:0<a:=of_decide_eq_true i;obtain⟨W,F⟩:=fam_expo hA hB hc hw a0;exact⟨_,_,_,W,_,_,F,doc_expo hA hB hc hw a0⟩
 ·have i':(decide (1<=n)&&decide (0<a))=true:=i;have g':decide (256<n)=false:=g;rw[xh,decide_eq_true_eq,decide_eq_true_eq]at i';rw[decide_eq_false_iff_not]at g';obtain⟨N,rfl⟩ : ∃N:Nat,n=N:=⟨n.toNat,by omega⟩
  have hN:1<=N/\N<=16:=by have:=hn (by omega);omega
  obtain⟨W,D,⟨N0,D0,D1,e⟩,F⟩:=fam_gamma hA hB hc hw i'.2 hN;exact⟨_,_,_,W,_,_,F,doc_gamma hA hB hc hw i'.2 hN N0 D0 D1 e⟩
 ·have i':decide (1<=n)=true:=i;have g':decide (256<n)=false:=g;rw[decide_eq_true_eq]at i';rw[decide_eq_false_iff_not]at g';obtain⟨N,rfl⟩ : ∃N:Nat,n=N:=⟨n.toNat,by omega⟩
  have hN:1<=N/\N<=16:=by have:=hn (by omega);omega
  exact⟨_,_,_,1,_,_,fam_chi hA hB hc hN,doc_chi hA hB hc hN⟩
 ·have i':decide (1<=n)=true:=i;have g':decide (256<n)=false:=g;rw[decide_eq_true_eq]at i';rw[decide_eq_false_iff_not]at g';obtain⟨N,rfl⟩ : ∃N:Nat,n=N:=⟨n.toNat,by omega⟩
  have hN:1<=N/\N<=16:=by have:=hn (by omega);omega
  exact⟨_,_,_,1,_,_,fam_student hA hB hc hN,doc_student hA hB hc hN⟩
 ·have i':(decide (1<=n)&&decide (1<=m))=true:=i;have g':(decide (256<n)||decide (256<m))=false:=g;rw[xh,decide_eq_true_eq,decide_eq_true_eq]at i';rw[Bool.or_eq_false_iff,decide_eq_false_iff_not,decide_eq_false_iff_not]at g';obtain⟨N,rfl⟩ : ∃N:Nat,n=N:=⟨n.toNat,by omega⟩
  obtain⟨M,rfl⟩ : ∃M:Nat,m=M:=⟨m.toNat,by omega⟩
  have hN:=hn (by omega);exact⟨_,_,_,1,_,_,fam_fisher hA hB hc ⟨by omega,by omega⟩ ⟨by omega,by omega⟩,doc_fisher hA hB hc ⟨by omega,by omega⟩ ⟨by omega,by omega⟩⟩
 ·have i':(decide (1<=n)&&decide (1<=m))=true:=i;have g':(decide (256<n)||decide (256<m))=false:=g;rw[xh,decide_eq_true_eq,decide_eq_true_eq]at i';rw[Bool.or_eq_false_iff,decide_eq_false_iff_not,decide_eq_false_iff_not]at g';obtain⟨N,rfl⟩ : ∃N:Nat,n=N:=⟨n.toNat,by omega⟩
  obtain⟨M,rfl⟩ : ∃M:Nat,m=M:=⟨m.toNat,by omega⟩
  have hN:=hn (by omega);exact⟨_,_,_,1,_,_,fam_beta hA hB hc ⟨by omega,by omega⟩ ⟨by omega,by omega⟩,doc_beta hA hB hc ⟨by omega,by omega⟩ ⟨by omega,by omega⟩⟩
 ·unfold cntD at ht;rw[hc]at ht;exact absurd ht (by decide)
 ·unfold cntD at ht;rw[hc]at ht;exact absurd ht (by decide)
 ·unfold inD at i;rw[if_neg k1,if_neg k2,if_neg k3,if_neg k4,if_neg k5,if_neg k6,if_neg k7,if_neg k8,if_neg k9]at i;exact absurd i (by decide)
def roomR (q e l1 h1 l2 h2:Rat):Int:=if h1+e<q/\q<l2-e then 1 else if q<l1-e\/h2+e<q then -1 else 0
set_option maxHeartbeats 2000000 in
theorem ref15_Room {l1 h1 l2 h2:Rat} (hq:RatA v q 1) (en:Go.Ev.Fn CX 41 [distV k n m sa na da sb nb db] (.tup [rv lo0,rv hi0]))
  (f1:Go.Ev.Fn CX 42 [distV k n m sa na da sb nb db,rv lo0,.int .i64 100] (.tup [ballR l1 h1,.int .i64 0])) (f2:Go.Ev.Fn CX 42 [distV k n m sa na da sb nb db,rv hi0,.int .i64 100] (.tup [ballR l2 h2,.int .i64 0]))
  (z1:szR l1 1300) (z2:szR h1 1300) (z3:szR l2 1300) (z4:szR h2 1300) :
  Go.Ev.Fn CX 10 [distV k n m sa na da sb nb db,v] (.int .i64 (roomR q (mkRat 1 (2^60)) l1 h1 l2 h2)):=by
 have bt:=ref4_Bit (p:=60);rw[show ((60:Nat):Int)=60 from rfl]at bt;have ze:szR (mkRat 1 (2^60)) 3:=⟨lim_len_lt (by decide +kernel),lim_len_lt (by decide +kernel)⟩
 have a1:=ref2_Add (RatA_rv z2) (RatA_rv ze);have a2:=ref2_Sub (RatA_rv z3) (RatA_rv ze);have a3:=ref2_Sub (RatA_rv z1) (RatA_rv ze);have a4:=ref2_Add (RatA_rv z4) (RatA_rv ze);have c1:=ref2_Cmp hq (RatA_rv (szR_add z2 ze));have c2:=ref2_Cmp hq (RatA_rv (szR_sub z3 ze));have c3:=ref2_Cmp hq (RatA_rv (szR_sub z1 ze));have c4:=ref2_Cmp hq (RatA_rv (szR_add z4 ze));unfold roomR;generalize mkRat 1 (2^60)=e at *
 have e1:=cmpR_gt (q:=q) (r:=h1+e);have e2:=cmpR_lt (q:=q) (r:=l2-e);have e3:=cmpR_lt (q:=q) (r:=l1-e);have e4:=cmpR_gt (q:=q) (r:=h2+e);obtain⟨sq,nq,dq,rfl,-⟩:=hq;clear z1 z2 z3 z4 ze;generalize h1+e=x1 at *
 generalize l2-e=x2 at *
 generalize l1-e=x3 at *
 generalize h2+e=x4 at *
 generalize cmpR q x1=y1 at *
 generalize cmpR q x2=y2 at *
 generalize cmpR q x3=y3 at *
 generalize cmpR q x4=y4 at *
 have tail : ∀ {g:Int},(¬(x1<q/\q<x2))->g=(if q<x3\/x4<q then -1 else 0)->Go.Ev.Fn CX 10 [distV k n m sa na da sb nb db,ratV sq nq dq] (.int .i64 g):=by
  intro g h0 hg;by_cases k1:x1<q
  ·have k2 : ¬q<x2:=fun h=>h0 ⟨k1,h⟩
   rw[decide_eq_true k1]at e1;rw[decide_eq_false k2]at e2;clear h0;by_cases k3:q<x3
   ·rw[if_pos (.inl k3)]at hg;rw[decide_eq_true k3]at e3;subst hg;clear k1 k2 k3 e4;refine fni Tryz.f10 ?_;unfold Tryz.f10;repeat (first|simp only[go_sem,e1,e2,e3]|simp (disch:=first|exact omg|fail) only[AX,e1,e2,e3]|refine wki ?_|refine vpd 5 [] ?_|refine vpd 7 [] ?_|refine vfa ?_)
   ·by_cases k4:x4<q
    ·rw[if_pos (.inr k4)]at hg;rw[decide_eq_false k3]at e3;rw[decide_eq_true k4]at e4;subst hg;clear k1 k2 k3 k4;refine fni Tryz.f10 ?_;unfold Tryz.f10;repeat (first|simp only[go_sem,e1,e2,e3,e4]|simp (disch:=first|exact omg|fail) only[AX,e1,e2,e3,e4]|refine wki ?_|refine vpd 5 [] ?_|refine vpd 7 [] ?_|refine vfa ?_)
    ·rw[if_neg (fun h=>h.elim k3 k4)]at hg;rw[decide_eq_false k3]at e3;rw[decide_eq_false k4]at e4;subst hg;clear k1 k2 k3 k4;refine fni Tryz.f10 ?_;unfold Tryz.f10;repeat (first|simp only[go_sem,e1,e2,e3,e4]|simp (disch:=first|exact omg|fail) only[AX,e1,e2,e3,e4]|refine wki ?_|refine vpd 5 [] ?_|refine vpd 7 [] ?_|refine vfa ?_)
  ·rw[decide_eq_false k1]at e1;clear h0 e2;by_cases k3:q<x3
   ·rw[if_pos (.inl k3)]at hg;rw[decide_eq_true k3]at e3;subst hg;clear k1 k3 e4;refine fni Tryz.f10 ?_;unfold Tryz.f10;repeat (first|simp only[go_sem,e1,e3]|simp (disch:=first|exact omg|fail) only[AX,e1,e3]|refine wki ?_|refine vpd 5 [] ?_|refine vpd 7 [] ?_|refine vfa ?_)
   ·by_cases k4:x4<q
    ·rw[if_pos (.inr k4)]at hg;rw[decide_eq_false k3]at e3;rw[decide_eq_true k4]at e4;subst hg;clear k1 k3 k4;refine fni Tryz.f10 ?_;unfold Tryz.f10;repeat (first|simp only[go_sem,e1,e3,e4]|simp (disch:=first|exact omg|fail) only[AX,e1,e3,e4]|refine wki ?_|refine vpd 5 [] ?_|refine vpd 7 [] ?_|refine vfa ?_)
    ·rw[if_neg (fun h=>h.elim k3 k4)]at hg;rw[decide_eq_false k3]at e3;rw[decide_eq_false k4]at e4;subst hg;clear k1 k3 k4;refine fni Tryz.f10 ?_;unfold Tryz.f10;repeat (first|simp only[go_sem,e1,e3,e4]|simp (disch:=first|exact omg|fail) only[AX,e1,e3,e4]|refine wki ?_|refine vpd 5 [] ?_|refine vpd 7 [] ?_|refine vfa ?_)
 by_cases h0:x1<q/\q<x2
 ·rw[if_pos h0];rw[decide_eq_true h0.1]at e1;rw[decide_eq_true h0.2]at e2;clear tail h0 e3 e4;refine fni Tryz.f10 ?_;unfold Tryz.f10;repeat (first|simp only[go_sem,e1,e2]|simp (disch:=first|exact omg|fail) only[AX,e1,e2]|refine wki ?_|refine vpd 5 [] ?_|refine vpd 7 [] ?_|refine vfa ?_)
 ·rw[if_neg h0];exact tail h0 rfl
set_option maxHeartbeats 1000000 in
theorem ref15_Fits {l1 h1 l2 h2:Rat} (hq:RatA v q 1) (f1:Go.Ev.Fn CX 42 [distV k n m sa na da sb nb db,rv lo,.int .i64 150] (.tup [ballR l1 h1,.int .i64 0])) (f2:Go.Ev.Fn CX 42 [distV k n m sa na da sb nb db,rv hi,.int .i64 150] (.tup [ballR l2 h2,.int .i64 0]))
  (z1:szR l1 1300) (z4:szR h2 1300) (g1:l1<=q) (g2:q<=h2):Go.Ev.Fn CX 12 [distV k n m sa na da sb nb db,v,ballR lo hi] (.bool true):=by
 have c1:=ref2_Cmp (RatA_rv z1) hq;have c2:=ref2_Cmp (RatA_rv z4) hq;have e1:=cmpR_le (q:=l1) (r:=q);have e2:=cmpR_ge (q:=h2) (r:=q);rw[decide_eq_true g1]at e1;rw[decide_eq_true g2]at e2;obtain⟨sq,nq,dq,rfl,-⟩:=hq;clear z1 z4 g1 g2;generalize cmpR l1 q=y1 at *
 generalize cmpR h2 q=y2 at *
 refine fni Tryz.f12 ?_;unfold Tryz.f12;repeat (first|simp only[go_sem,e1,e2]|simp (disch:=first|exact omg|fail) only[AX,e1,e2]|refine wki ?_|refine vfa ?_)
end
end Go.Proofs.YtfknkoeagjonbaaGreat
namespace Go.Proofs.YtfknkoeagjonbaaGreat
open Go.Ev
section
variable {k n m p g e:Int} {sa sb sq:Bool} {na da nb db nq dq:List Nat} {q r:Rat} {P:Nat}
theorem finds_big (hl:Go.Ev.Fn CX 6 [distV k n m sa na da sb nb db] (.bool true)):Go.Ev.Fn CX 3 [distV k n m sa na da sb nb db,ratV sq nq dq,.int .i64 p] (.bool true):=by
 refine fni Tryz.f3 ?_;unfold Tryz.f3;repeat (first|simp only[go_sem]|simp (disch:=first|exact omg|fail) only[AX]|refine wki ?_|refine vfa ?_)
theorem finds_out (hl:Go.Ev.Fn CX 6 [distV k n m sa na da sb nb db] (.bool false)) (h:1<nq.length\/1<dq.length\/20<p):Go.Ev.Fn CX 3 [distV k n m sa na da sb nb db,ratV sq nq dq,.int .i64 p] (.bool true):=by
 by_cases c1:1<nq.length
 ·clear h;refine fni Tryz.f3 ?_;unfold Tryz.f3;repeat (first|simp only[go_sem]|simp (disch:=first|exact omg|fail) only[AX]|refine wki ?_|refine vfa ?_)
 by_cases c2:1<dq.length
 ·clear h;refine fni Tryz.f3 ?_;unfold Tryz.f3;repeat (first|simp only[go_sem]|simp (disch:=first|exact omg|fail) only[AX]|refine wki ?_|refine vfa ?_)
 have c3:20<p:=by omega
 clear h;refine fni Tryz.f3 ?_;unfold Tryz.f3;repeat (first|simp only[go_sem]|simp (disch:=first|exact omg|fail) only[AX]|refine wki ?_|refine vfa ?_)
set_option maxHeartbeats 2000000 in
theorem finds_err {s1 s2:Bool} {x1 y1 x2 y2:List Nat} (hl:Go.Ev.Fn CX 6 [distV k n m sa na da sb nb db] (.bool false)) (l1:nq.length<=1) (l2:dq.length<=1) (hp:p<=20) (he:e≠0)
  (f1:Go.Ev.Fn CX 7 [distV k n m sa na da sb nb db,ratV sq nq dq,.int .i64 p] (.tup [ballX6 s1 x1 y1 s2 x2 y2,.int .i64 e]))
  (g1:Go.Ev.Fn CX 8 [distV k n m sa na da sb nb db,ratV sq nq dq] (.int .i64 e)):Go.Ev.Fn CX 3 [distV k n m sa na da sb nb db,ratV sq nq dq,.int .i64 p] (.bool true):=by
 have hK:=known15_fn;refine fni Tryz.f3 ?_;unfold Tryz.f3;repeat (first|simp only[go_sem]|simp (disch:=first|exact omg|fail) only[AX]|refine wki ?_|refine vfa ?_)
set_option maxHeartbeats 2000000 in
theorem finds_not {s1 s2:Bool} {x1 y1 x2 y2:List Nat} (hl:Go.Ev.Fn CX 6 [distV k n m sa na da sb nb db] (.bool false)) (l1:nq.length<=1) (l2:dq.length<=1) (hp:p<=20) (hg:g<=0)
  (f1:Go.Ev.Fn CX 7 [distV k n m sa na da sb nb db,ratV sq nq dq,.int .i64 p] (.tup [ballX6 s1 x1 y1 s2 x2 y2,.int .i64 7]))
  (g1:Go.Ev.Fn CX 8 [distV k n m sa na da sb nb db,ratV sq nq dq] (.int .i64 0))
  (g2:Go.Ev.Fn CX 10 [distV k n m sa na da sb nb db,ratV sq nq dq] (.int .i64 g)):Go.Ev.Fn CX 3 [distV k n m sa na da sb nb db,ratV sq nq dq,.int .i64 p] (.bool true):=by
 have hK:=known15_fn;by_cases g0:g<0
 ·refine fni Tryz.f3 ?_;unfold Tryz.f3;repeat (first|simp only[go_sem]|simp (disch:=first|exact omg|fail) only[AX]|refine wki ?_|refine vfa ?_)
 ·refine fni Tryz.f3 ?_;unfold Tryz.f3;repeat (first|simp only[go_sem]|simp (disch:=first|exact omg|fail) only[AX]|refine wki ?_|refine vfa ?_)
set_option maxHeartbeats 2000000 in
theorem finds_ok {lo hi:Rat} (hl:Go.Ev.Fn CX 6 [distV k n m sa na da sb nb db] (.bool false)) (l1:nq.length<=1) (l2:dq.length<=1) (hp:p<=20) (hg:0<=g) (hP:(p<=0/\P=0)\/p=(P:Int)) (hP2:P<=20)
  (f1:Go.Ev.Fn CX 7 [distV k n m sa na da sb nb db,ratV sq nq dq,.int .i64 p] (.tup [ballR lo hi,.int .i64 0]))
  (g1:Go.Ev.Fn CX 8 [distV k n m sa na da sb nb db,ratV sq nq dq] (.int .i64 0))
  (g2:Go.Ev.Fn CX 10 [distV k n m sa na da sb nb db,ratV sq nq dq] (.int .i64 g))
  (gd:Go.Ev.Fn CX 11 [ballR lo hi,ballR lo hi,.int .i64 (P:Int)] (.bool true))
  (ft:Go.Ev.Fn CX 12 [distV k n m sa na da sb nb db,ratV sq nq dq,ballR lo hi] (.bool true)):Go.Ev.Fn CX 3 [distV k n m sa na da sb nb db,ratV sq nq dq,.int .i64 p] (.bool true):=by
 have hK:=known15_fn;have x1:(if (0:Int)>p then (0:Int) else p)=(P:Int):=by split<;>omega
 have x2:(if (40:Int)<(P:Int) then (40:Int) else (P:Int))=(P:Int):=if_neg (by omega);by_cases g0:0<g
 ·refine fni Tryz.f3 ?_;unfold Tryz.f3;repeat (first|simp only[go_sem,x1,x2]|simp (disch:=first|exact omg|fail) only[AX,x1,x2]|refine wki ?_|refine vfa ?_)
 ·refine fni Tryz.f3 ?_;unfold Tryz.f3;repeat (first|simp only[go_sem,x1,x2]|simp (disch:=first|exact omg|fail) only[AX,x1,x2]|refine wki ?_|refine vfa ?_)
end
section
variable {q e c lo0 hi0 lo hi l1 h1 l2 h2 t:Rat} {Lo Hi:Tells} {W p:Nat}
theorem tiny:(1:Rat)<=mkRat 1 (2^60)*p2 60/\p2 200=p2 60*p2 140/\(2:Rat)<=p2 140:=⟨by decide +kernel,by decide +kernel,by decide +kernel⟩
theorem near_e {l h:Rat} (w:(h-l)*p2 200<=1):h-l<mkRat 1 (2^60):=by
 obtain⟨a,b,c⟩:=tiny;rw[b]at w;have P:=p2_pos 60;generalize mkRat 1 (2^60)=e at *
 generalize p2 60=A at *
 generalize p2 140=B at *
 refine wv.1 fun g => ?_
 have m:=xA g (xG P);have m2:=xA c (show 0<=(h-l)*A by grind);have e2:(h-l)*(A*B)=(h-l)*A*B:=by grind
 rw[e2]at w;have m3:2*((h-l)*A)<=B*((h-l)*A):=m2;grind
theorem one_limbF {q:Rat} (zq:szR q 1) (h0:0<q) (h1:q<1):1<=q*4294967296/\1<=(1-q)*4294967296:=by
 have d1:q.den<4294967296:=by
  have h:=wth_lt (okL_lim q.den);rw[wth_lim]at h;have h2:4294967296^(lim q.den).length<=4294967296^1:=xD (by omega) zq.2;omega
 have dR:(q.den:Rat)<=4294967296:=by exact_mod_cast zf d1
 have dp:(0:Rat)<(q.den:Rat):=by exact_mod_cast q.den_pos
 have m:=mk_mulP q.num (b:=q.den) q.den_pos;rw[wB]at m;have n1:(1:Rat)<=(q.num:Rat):=by
  have h:(0:Rat)<(q.num:Rat):=by rw[<- m];exact xt h0 dp
  have h2:0<q.num:=by exact_mod_cast h
  have h3:1<=q.num:=by omega
  exact_mod_cast h3
 have n2:(1:Rat)<=(q.den:Rat)-(q.num:Rat):=by
  have h:(q.num:Rat)<(q.den:Rat):=by
   rw[<- m];have:=Rat.mul_lt_mul_of_pos_right h1 dp;grind
  have h2:q.num<(q.den:Int):=by exact_mod_cast h
  have h3:q.num+1<=(q.den:Int):=by omega
  have h4:(q.num:Rat)+1<=(q.den:Rat):=by exact_mod_cast h3
  grind
 have e1:=xB dR (xG h0);have e2:=xB dR (show 0<=1-q by grind);constructor
 ·generalize (q.den:Rat)=d at *
  generalize (q.num:Rat)=k at *
  grind
 ·generalize (q.den:Rat)=d at *
  generalize (q.num:Rat)=k at *
  grind
theorem e60:(0:Rat)<mkRat 1 (2^60):=by decide +kernel
theorem room_ok (q1:q<1) (w1 : ∃h,Hi lo0 h/\h<q) (w2 : ∃l,Lo hi0 l/\q<l) (d1 : ∀u,Hi lo0 u->l1<=u) (d2 : ∀u q,Lo hi0 u->q<=u->q<1->q<=h2):0<=roomR q (mkRat 1 (2^60)) l1 h1 l2 h2:=by
 obtain⟨u,A,k1⟩:=w1;obtain⟨v,B,k2⟩:=w2;have a:=d1 u A;have b:=d2 v q B (xG k2) q1;have E:=e60;unfold roomR;generalize mkRat 1 (2^60)=e at *
 by_cases g:h1+e<q/\q<l2-e
 ·rw[if_pos g];decide
 ·rw[if_neg g,if_neg (by rintro(k|k)<;>grind)];decide
theorem room_bad (zq:szR q 1) (q0:0<q) (q1:q<1) (hp:p<=20) (gap : ∀u v l h,lo0<=u->v<=hi0->1<=(v-u)*2097152->1<=l*8589934592->1<=(1-h)*8589934592->Lo u l->Hi v h->1<=(h-l)*p2 198)
  (w:(∃s,ToldK (p2 200) Lo Hi q lo0 s/\0<=s)\/(∃s,ToldK (p2 200) Lo Hi q hi0 s/\s<=0)\/Stuck (p2 200) Lo Hi q (mkRat 1 (2^p)/4) lo0 hi0)
  (d1 : ∀u q,Lo lo0 u->q<=u->q<1->q<=h1) (d2 : ∀u,Hi hi0 u->l2<=u):roomR q (mkRat 1 (2^60)) l1 h1 l2 h2<=0:=by
 have E:=e60;unfold roomR;by_cases g:h1+mkRat 1 (2^60)<q/\q<l2-mkRat 1 (2^60);rotate_left
 ·rw[if_neg g];split<;>decide
 exfalso;obtain⟨g1,g2⟩:=g;rcases w with⟨s,T,hs⟩|⟨s,T,hs⟩|⟨x,x0,x1,⟨a,b,A,B,k1,k2,k3⟩,⟨a',b',A',B',k4,k5,k6⟩⟩
 ·rcases T with⟨rfl,-⟩|⟨-,l,L,k⟩|⟨-,l,h,L,H,k1,k2,k3⟩
  ·exact absurd hs (by decide)
  ·have:=d1 l q L (xG k) q1;grind
  ·have n:=near_e k3;have:=d1 l l L xN (by grind);grind
 ·rcases T with⟨-,h,H,k⟩|⟨rfl,-⟩|⟨-,l,h,L,H,k1,k2,k3⟩
  ·have:=d2 h H;grind
  ·exact absurd hs (by decide)
  ·have n:=near_e k3;have:=d2 h H;grind
 ·obtain⟨o1,o2⟩:=one_limbF zq q0 q1;have n1:=near_e k3;have n2:=near_e k6;have t1:mkRat 1 (2^p)*p2 p=1:=mk_mulP 1 (xK (by omega));have t4:mkRat 1 (2^p)/4*4=mkRat 1 (2^p):=xd (by decide);have pp:p2 p<=1048576:=by
   have:2^p<=2^20:=xD (by omega) hp;exact_mod_cast this
  have P0:=p2_pos p;have e5:mkRat 1 (2^60)*8589934592*4<=1:=by decide +kernel
  generalize mkRat 1 (2^60)=e at *
  generalize mkRat 1 (2^p)/4=t at *
  generalize mkRat 1 (2^p)=T at *
  have T0:0<T:=by
   refine wv.1 fun k => ?_
   have:=xA k (xG P0);grind
  have tt:1<=T*1048576:=by
   have:=xB pp (xG T0);grind
  have gp:=gap x (x+2*t) a b' (xG x0) (xG x1) (by clear gap d1 d2;grind) (by clear gap d1 d2;grind) (by clear gap d1 d2;grind) A B';have e6:p2 200=p2 198*4:=by decide +kernel
  rw[e6]at k3 k6;have P8:=p2_pos 198;generalize p2 198=Q at *
  have m1:=xA (show q-a<=b-a by grind) (xG P8);have m2:=xA (show b'-q<=b'-a' by grind) (xG P8);clear gap d1 d2 A B A' B' pp;grind
end
set_option maxHeartbeats 1000000 in
theorem finds_law (ss0:List SV) (sh0:ShpT Tryz.prog 6 26 ss0) (ss1:List SV) (sh1:ShpT Tryz.prog 6 24 ss1) (a3:Int) (w3:(Lit.int .i64 a3).wf=true) :
  Go.Ev.Fn CX 3 [.agg ss0,.agg ss1,.int .i64 a3] (.bool true):=by
 obtain⟨k,n,m,sa,na,da,sb,nb,db,e,-,-,-,h1,h2,h3,h4⟩:=shp_dist sh0;obtain⟨sq,nq,dq,rfl,h5,h6,-,-⟩:=shp_rat sh1;rw[e];obtain⟨lg,hl,hlen⟩:=large15_G (k:=k) (n:=n) (m:=m) (sa:=sa) (na:=na) (da:=da) (sb:=sb) (nb:=nb) (db:=db);cases lg;rotate_left
 ·exact finds_big hl
 obtain⟨⟨l1,l2,l3,l4⟩,hn⟩:=hlen rfl;by_cases ho:1<nq.length\/1<dq.length\/20<a3
 ·exact finds_out hl ho
 have hA:RatA (ratV sa na da) (mkRat (sgn sa (wth na)) (wth da)) 2:=⟨_,_,_,rfl,h1,h2,l1,l2,rfl⟩
 have hB:RatA (ratV sb nb db) (mkRat (sgn sb (wth nb)) (wth db)) 2:=⟨_,_,_,rfl,h3,h4,l3,l4,rfl⟩
 have hQ:RatA (ratV sq nq dq) (mkRat (sgn sq (wth nq)) (wth dq)) 1:=⟨_,_,_,rfl,h5,h6,by omega,by omega,rfl⟩
 generalize mkRat (sgn sa (wth na)) (wth da)=a at *
 generalize mkRat (sgn sb (wth nb)) (wth db)=b at *
 generalize mkRat (sgn sq (wth nq)) (wth dq)=q at *
 obtain⟨P,hP,hP2⟩ : ∃P:Nat,((a3<=0/\P=0)\/a3=(P:Int))/\P<=20:=⟨a3.toNat,by omega,by omega⟩
 have l5:nq.length<=1:=by omega
 have l6:dq.length<=1:=by omega
 have hp:a3<=20:=by omega
 have g1:=ref15_First (k:=k) (n:=n) (m:=m) hA hB hQ;by_cases z1:fstD k n m a b q=0;rotate_left
 ·exact finds_err hl l5 l6 hp z1 (no_is (of_err (p:=a3) hA hB hQ z1)) g1
 rw[z1]at g1;obtain⟨hck,hct,q0,q1,hw⟩:=fst_zero z1;obtain⟨Lo,Hi,c,W,lo0,hi0,F,D⟩:=doc_any hA hB hck hct hw hn;obtain⟨ok,lo,hi,f1,k1,k2,k3⟩:=of_G (p:=P) (pI:=a3) hP2 hP F hQ q0 q1;have S0:=srg_0 (Lo:=Lo) (Hi:=Hi) (q:=q) F.hl F.hh F.lt F.dl F.dh;obtain⟨s1,s2⟩:=srg_at F S0;obtain⟨u1,v1,r1,y1,y2,-,m1,m2⟩:=D.cdf lo0 ⟨22,by omega,F.dl⟩ s1 xN (xG F.lt) 100 (.inl rfl);obtain⟨u2,v2,r2,y3,y4,-,m3,m4⟩:=D.cdf hi0 ⟨22,by omega,F.dh⟩ s2 (xG F.lt) xN 100 (.inl rfl);have rm:=ref15_Room hQ D.en r1 r2 y1 y2 y3 y4;cases ok
 ·exact finds_not hl l5 l6 hp (room_bad (szR_of hQ) q0 q1 hP2 D.gap (k2 rfl) m1 m4) (no_of f1) g1 rm
 obtain⟨i1,S,j1,wd⟩:=k1 rfl;obtain⟨w1,w2⟩:=k3 rfl;obtain⟨t1,t2⟩:=srg_at F S j1;obtain⟨b1,b2⟩:=srg_ends S;have lt:=S.lt;have low : ∃h,Hi lo h/\h<q:=by
  rcases S.low with rfl|⟨-,h⟩
  ·exact w1
  ·exact h
 have high : ∃l,Lo hi l/\q<l:=by
  rcases S.high with rfl|⟨-,h⟩
  ·exact w2
  ·exact h
 obtain⟨u3,v3,r3,y5,-,-,-,m6⟩:=D.cdf lo ⟨22+i1,by omega,S.dlo⟩ t1 b1 (by grind) 150 (.inr rfl);obtain⟨u4,v4,r4,-,y8,-,m7,-⟩:=D.cdf hi ⟨22+i1,by omega,S.dhi⟩ t2 (by grind) b2 150 (.inr rfl);obtain⟨h',A,ha⟩:=low;obtain⟨l',B,hb⟩:=high;have ft:=ref15_Fits hQ r3 r4 y5 y8 (by have:=m6 h' A;grind) (m7 l' q B (xG hb) q1);have thin:(hi-lo)*p2 P<=1:=by
  have t1:mkRat 1 (2^P)*p2 P=1:=mk_mulP 1 (xK (by omega));have:=xA wd (xG (p2_pos P));rwa [t1]at this
 have gd:=ref4_Good (p:=(P:Int)) (P:=P) (.inr rfl) (by omega) t1 t2 t1 t2 (by omega) (by omega) (by omega) (xG lt) (xG lt) (xG lt) thin;exact finds_ok hl l5 l6 hp (room_ok q1 w1 w2 m2 m3) hP hP2 f1 g1 rm gd ft
end Go.Proofs.YtfknkoeagjonbaaGreat
