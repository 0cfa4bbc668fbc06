/- Part 8 of the proof: the evaluator, contracts of functions and their plain laws (joined by program). No condition. -/
import Derived.Test.YtfknkoeagjonbaaGreatPart7
set_option linter.unusedVariables false
set_option linter.unusedSimpArgs false
set_option maxRecDepth 100000
namespace Go.Proofs.YtfknkoeagjonbaaGreat
open Go.Ev
def eRow (w Y:Nat):Nat->Nat->Nat->Nat->Nat->Nat->Option (Nat×Nat)
 |0,_,_,_,_,_=>none
 |f+1,n,t1,t2,a1,a2=>if t2<2 then some (a1,a2+1) else
   eRow w Y f (n+1) (t1*Y/2^w*1/n) ((t2*(Y+1)/2^w+1)*1/n+1) (a1+t1*Y/2^w*1/n) (a2+((t2*(Y+1)/2^w+1)*1/n+1))
def eInv (w n t1 t2 a1 a2:Nat):Prop:=1<=n/\t1<=t2/\t2<=t1+5/\t2<=2^w+1/\2^w<=a1/\a1<=a2/\a2<=a1+5*n/\a2+t2<=2^(w+1)+2+4*n
theorem eInv_0 (w:Nat):eInv w 1 (2^w) (2^w+1) (2^w) (2^w+1):=by
 have:2^(w+1)=2^w*2:=xW _ _;unfold eInv;omega
theorem eStep_le {w Y n t2:Nat} (hw:64<=w) (hY:Y+1<=2^(w-7)) (hn:1<=n):(t2*(Y+1)/2^w+1)*1/n+1<=t2/128+2:=by
 have P:0<2^w:=xM (by omega);have e:2^w=2^(w-7)*128:=by rw[show (128:Nat)=2^7 from rfl,<- xN];congr 1;omega
 have h1:t2*(Y+1)/2^w<=t2/128:=by
  rw[e];refine xG (xg (xF t2 hY)) ?_;rw[xV t2,Nat.mul_div_mul_left _ _ (xM (by omega))];exact xU _
 rw[xu];have h2:=xt (t2*(Y+1)/2^w+1) n;omega
theorem eInv_step {w Y n t1 t2 a1 a2:Nat} (hw:64<=w) (hY:Y+1<=2^(w-7)) (h:eInv w n t1 t2 a1 a2) :
  eInv w (n+1) (t1*Y/2^w*1/n) ((t2*(Y+1)/2^w+1)*1/n+1) (a1+t1*Y/2^w*1/n) (a2+((t2*(Y+1)/2^w+1)*1/n+1)):=by
 obtain⟨h1,h2,h3,h4,h5,h6,h7,h8⟩:=h;have up:=eStep_le (t2:=t2) hw hY h1;have P:0<2^w:=xM (by omega);have e:2^w=2^(w-7)*128:=by rw[show (128:Nat)=2^7 from rfl,<- xN];congr 1;omega
 have big:1024<=2^(w-7):=xG (by decide) (xE (n:=2) (by omega) (show 10<=w-7 by omega));have q1:t2*(Y+1)/2^w<=t1*Y/2^w+2:=by
  have m1:t2*(Y+1)<=t1*Y+2^w*2:=by
   have a:=xB (Y+1) h3;have b:(t1+5)*(Y+1)=t1*Y+t1+5*(Y+1):=by rw[xY,xZ,xu]
   omega
  have:=xg (c:=2^w) m1;rwa [wu _ _ P]at this
 have q0:t1*Y/2^w<=t2*(Y+1)/2^w:=xg (xJ h2 (by omega));generalize t1*Y/2^w=x1 at *
 generalize t2*(Y+1)/2^w=x2 at *
 rw[xu,xu]at *
 have g1:x1/n<=(x2+1)/n:=xg (by omega);have g2:(x2+1)/n<=x1/n+3:=by
  have a:(x2+1)/n<=(x1+3*n)/n:=xg (by have:=yg 3 h1;omega);rwa [Nat.add_mul_div_right _ _ h1]at a
 generalize x1/n=u1 at *
 generalize (x2+1)/n=u2 at *
 unfold eInv;omega
theorem eRow_end {w Y:Nat} (hw:64<=w) (hY:Y+1<=2^(w-7)) : ∀ (m f n t1 t2 a1 a2:Nat),eInv w n t1 t2 a1 a2->t2<=2^(7*m)+3->(m=0->2<=n)->m+2<=f -> ∃A B s,eRow w Y f n t1 t2 a1 a2=some (A,B)/\n<=s/\s<=n+m+1/\2^w<=A/\A<=B/\B<=A+5*s+1/\B<=2^(w+1)+3+4*s:=by
 intro m;induction m with
 |zero=>
  intro f n t1 t2 a1 a2 h ht hn hf;obtain⟨f,rfl⟩ : ∃k,f=k+2:=⟨f-2,by omega⟩
  have hh:=h;obtain⟨h1,h2,h3,h4,h5,h6,h7,h8⟩:=hh;rw[eRow];by_cases g:t2<2
  ·rw[if_pos g];exact⟨a1,a2+1,n,rfl,xU _,by omega,h5,by omega,by omega,by omega⟩
  ·rw[if_neg g];have st:=eInv_step hw hY h;have e:(t2*(Y+1)/2^w+1)*1/n+1=1:=by
    have P:0<2^w:=xM (by omega);have e7:2^w=2^(w-7)*128:=by rw[show (128:Nat)=2^7 from rfl,<- xN];congr 1;omega
    have z:t2*(Y+1)/2^w=0:=by
     refine yo ?_;have m:=xJ (show t2<=4 by have:2^(7*0)=1:=rfl;omega) hY;have:0<2^(w-7):=xM (by omega);omega
    rw[z,xu,yf,yo (show 1<n by have:=hn rfl;omega)]
   rw[e]at st ⊢;rw[eRow,if_pos (by omega)];obtain⟨k1,k2,k3,k4,k5,k6,k7,k8⟩:=st;exact⟨_,_,n+1,rfl,by omega,by omega,k5,by omega,by omega,by omega⟩
 |succ m ih=>
  intro f n t1 t2 a1 a2 h ht hn hf;obtain⟨f,rfl⟩ : ∃k,f=k+1:=⟨f-1,by omega⟩
  have hh:=h;obtain⟨h1,h2,h3,h4,h5,h6,h7,h8⟩:=hh;rw[eRow];by_cases g:t2<2
  ·rw[if_pos g];exact⟨a1,a2+1,n,rfl,xU _,by omega,h5,by omega,by omega,by omega⟩
  ·rw[if_neg g];have st:=eInv_step hw hY h;have up:=eStep_le (t2:=t2) hw hY h1;have dv:t2/128<=2^(7*m):=by
    have e:2^(7*(m+1))=2^(7*m)*128:=by rw[show 7*(m+1)=7*m+7 by omega,xN]
    rw[e]at ht;omega
   obtain⟨A,B,s,r1,r2,r3,r4,r5,r6,r7⟩:=ih f (n+1) _ _ _ _ st (by omega) (by omega) (by omega);exact⟨A,B,s,r1,by omega,by omega,r4,r5,r6,r7⟩
theorem eRow_enc {w Y:Nat} {y:Rat} (hy:Enc w Y (Y+1) y) (hy1:y+y<=1) : ∀ (f n t1 t2 a1 a2 A B:Nat),eRow w Y f (n+1) t1 t2 a1 a2=some (A,B)->Enc w t1 t2 (Ex.tm y n)->Enc w a1 a2 (Ex.E y (n+1)) -> ∃s,∀L,s<=L->Enc w A B (Ex.E y L):=by
 have y0:=enc_nonneg hy;intro f;induction f with
 |zero=>intro n t1 t2 a1 a2 A B h;cases h
 |succ f ih=>
  intro n t1 t2 a1 a2 A B h ht ha;rw[eRow]at h;by_cases g:t2<2
  ·rw[if_pos g]at h;simp only[Option.some.injEq,Prod.mk.injEq]at h;obtain⟨rfl,rfl⟩:=h;refine⟨n+1,fun L hL => ?_⟩;have P:=p2_pos w;have mono:=Ex.E_mono y0 hL;have c:((2:Nat):Rat)<=((n+1+1:Nat):Rat):=by exact_mod_cast (by omega:2<=n+1+1)
   have tail:=Ex.E_tail_le (L:=L) y0 (N:=n+1) (xO (show y+y<=((2:Nat):Rat) from xO hy1 (by decide)) c);have tn:=Ex.tm_nn y0 n;have ts:=Ex.tm_succ y n;have half:2*Ex.tm y (n+1)<=Ex.tm y n:=by
    have c1:((1:Nat):Rat)<=((n+1:Nat):Rat):=by exact_mod_cast (by omega:1<=n+1)
    have tn1:=Ex.tm_nn y0 (n+1);have m1:=xA c1 tn1;have m2:=xA hy1 tn;rw[ts]at m1;have e1:((1:Nat):Rat)=1:=rfl;rw[e1]at m1;grind
   obtain⟨l1,l2⟩:=ha;obtain⟨l3,l4⟩:=ht;have t1':(t2:Rat)<=1:=by exact_mod_cast (by omega:t2<=1)
   have eb:((a2+1:Nat):Rat)=(a2:Rat)+1:=by exact_mod_cast rfl
   refine⟨xO l1 (xA mono (xX P)),?_⟩;rw[eb];have m3:=xA (show Ex.E y L<=Ex.E y (n+1)+Ex.tm y n by grind) (xX P);rw[Rat.add_mul]at m3;generalize Ex.E y L*p2 w=z1 at *
   generalize Ex.E y (n+1)*p2 w=z2 at *
   generalize Ex.tm y n*p2 w=z3 at *
   clear mono tail tn ts half;grind
  ·rw[if_neg g]at h;have e1:=enc_times (n:=1) (d:=n+1) (by omega) (enc_mul ht hy);have e2:Ex.tm y n*y*((1:Nat):Rat)/((n+1:Nat):Rat)=Ex.tm y (n+1):=by
    have:((1:Nat):Rat)=1:=rfl;rw[this,yr];rfl
   rw[e2]at e1;exact ih (n+1) _ _ _ _ A B h e1 (enc_add ha e1)
def sqs (w:Nat):Nat->Nat->Nat->Nat×Nat
 |0,lo,hi=>(lo,hi)
 |k+1,lo,hi=>sqs w k (lo*lo/2^w) (hi*hi/2^w+1)
theorem sq_step {w lo hi c G:Nat} (h1:2^w<=lo) (h2:lo<=hi) (h3:hi<2^(w+c)) (h4:hi<=lo+G:=by omega) (hG:1<=G:=by omega) :
  2^w<=lo*lo/2^w/\lo*lo/2^w<=hi*hi/2^w+1/\hi*hi/2^w+1<2^(w+(c+c))/\hi*hi/2^w+1<=lo*lo/2^w+G*2^(c+2):=by
 have P:0<2^w:=xM (by omega);have Pc:0<2^c:=xM (by omega);have e1:2^(w+c)=2^w*2^c:=xN _ _ _;have e2:2^(w+(c+c))=2^w*2^c*2^c:=by rw[xN,xN,xP]
 have e3:2^(c+2)=2^c*4:=xN _ _ _;refine⟨(Nat.le_div_iff_mul_le P).2 (xJ h1 h1),yZ (xg (xJ h2 h2)),?_,?_⟩
 ·have m:hi*hi<(2^w*2^c*2^c-1)*2^w:=by
   obtain⟨d,hd⟩ : ∃d,2^w*2^c=hi+1+d:=⟨2^w*2^c-hi-1,by omega⟩
   have a:(hi+1)*(hi+1)<=2^w*2^c*(2^w*2^c):=xJ (by omega) (by omega);have b:2^w*2^c*(2^w*2^c)=2^w*2^c*2^c*2^w:=by generalize 2^w=x;generalize 2^c=y;grind
   have e:(hi+1)*(hi+1)=hi*hi+2*hi+1:=by clear h1 h2 h3 h4 a;grind
   rw[e,b]at a;rw[Nat.sub_mul,xe];have:2^w<=hi:=xG h1 h2;generalize 2^w*2^c*2^c*2^w=z at *
   generalize hi*hi=y at *
   omega
  have r:=(yA P).2 m;rw[e2];clear m e2 e1 e3 h3 h4;generalize hi*hi/2^w=t at *
  generalize 2^w*2^c*2^c=z at *
  omega
 ·have m:hi*hi<=lo*lo+2^w*(G*(2^c*2)):=by
   obtain⟨g,hg,hgG⟩ : ∃g,hi=lo+g/\g<=G:=⟨hi-lo,by omega,by omega⟩
   have a:hi*hi=lo*lo+g*(hi+lo):=by subst hg;clear h1 h2 h3 h4;grind
   have b:g*(hi+lo)<=G*(2^w*2^c*2):=xJ hgG (by omega);have e:G*(2^w*2^c*2)=2^w*(G*(2^c*2)):=by rw[xP (2^w),yn]
   omega
  have:=xg (c:=2^w) m;rw[wu _ _ P]at this;have k:1<=G*(2^c*2):=zI hG (by omega);have e:G*2^(c+2)=G*(2^c*2)*2:=by rw[e3,xP,xP]
  omega
theorem sqs_ok {w:Nat} : ∀ (k lo hi c G:Nat),2^w<=lo->lo<=hi->hi<2^(w+c)->hi<=lo+G->1<=G ->
  2^w<=(sqs w k lo hi).1/\(sqs w k lo hi).1<=(sqs w k lo hi).2/\(sqs w k lo hi).2<2^(w+c*2^k)/\(sqs w k lo hi).2<=(sqs w k lo hi).1+G*2^(c*(2^k-1)+2*k)
 |0,lo,hi,c,G,h1,h2,h3,h4,h5=>by
  refine⟨h1,h2,?_,?_⟩
  ·rw[yk,xu];exact h3
  ·show hi<=lo+G*2^(c*(2^0-1)+2*0);rw[yk,Nat.sub_self,yY,yk,xu];exact h4
 |k+1,lo,hi,c,G,h1,h2,h3,h4,h5=>by
  obtain⟨s1,s2,s3,s4⟩:=sq_step h1 h2 h3 h4 h5;have ih:=sqs_ok k (lo*lo/2^w) (hi*hi/2^w+1) (c+c) (G*2^(c+2)) s1 s2 s3 s4 (zI h5 (xM (by omega)));obtain⟨i1,i2,i3,i4⟩:=ih;have p:0<2^k:=xM (by omega);have pk:2^(k+1)=2^k*2:=xW _ _;refine⟨i1,i2,?_,?_⟩
  ·have e:(c+c)*2^k=c*2^(k+1):=by rw[pk,<- Nat.mul_two,xP,xV 2]
   rw[<- e];exact i3
  ·have e:G*2^(c+2)*2^((c+c)*(2^k-1)+2*k)=G*2^(c*(2^(k+1)-1)+2*(k+1)):=by
    rw[xP,<- xN];congr 2;obtain⟨q,hq⟩ : ∃q,2^k=q+1:=⟨2^k-1,by omega⟩
    rw[pk,hq,show q+1-1=q by omega,show (q+1)*2-1=q+q+1 by omega,xZ,xZ,xu,xY];omega
   rw[<- e];exact i4
theorem sqs_enc {w:Nat} : ∀ (k lo hi:Nat) (q:Rat),Enc w lo hi q->Enc w (sqs w k lo hi).1 (sqs w k lo hi).2 (q^2^k)
 |0,lo,hi,q,h=>by
  rw[yk,yp,yx,yK];exact h
 |k+1,lo,hi,q,h=>by
  have ih:=sqs_enc k _ _ (q*q) (enc_mul h h);have e:q^2^(k+1)=(q*q)^2^k:=by
   rw[xW,Nat.mul_two,Ex.pow_plus,Ex.mul_powR]
  rw[e];exact ih
end Go.Proofs.YtfknkoeagjonbaaGreat
namespace Go.Proofs.YtfknkoeagjonbaaGreat
open Go.Ev
theorem E_three {y:Rat} (h0:0<=y) (h1:y<=1) (L:Nat):Ex.E y L<=3:=by
 have t:=Ex.E_tail_le (L:=L) h0 (N:=1) (show y+y<=((1+1:Nat):Rat) by have:((1+1:Nat):Rat)=2:=rfl;rw[this];grind);have e1:Ex.E y 1=1:=by show (0:Rat)+1=1;decide +kernel
 have s:=Ex.tm_succ y 0;have e2:((0+1:Nat):Rat)=1:=rfl;have e3:Ex.tm y 0=1:=rfl;rw[e2,e3]at s;rw[e1]at t;grind
theorem pow_mono {a b:Rat} (h0:0<=a) (h:a<=b) : ∀n:Nat,a^n<=b^n
 |0=>by rw[yx,yx];exact xi
 |n+1=>by
  rw[yp,yp];exact xO (xA (pow_mono h0 h n) h0) (xI h (Ex.pow_nn (show 0<=b by grind) n))
theorem E_big {x:Rat} (h0:0<=x) (h1:x<=64) (L:Nat):Ex.E x L<=Ex.t2 102:=by
 rcases xl L with e|e
 ·subst e;exact xX (Ex.t2_pos 102)
 ·have hq:(1/64:Rat)*64=1:=by decide +kernel
  have q0:(0:Rat)<=1/64:=by decide +kernel
  have y0:0<=1/64*x:=xL q0 h0;have y1:1/64*x<=1:=by
   have:=xI h1 q0;rwa [hq]at this
  have p:=Ex.E_pow_ge y0 e 64;have ex:((64:Nat):Rat)*(1/64*x)=x:=by
   have:((64:Nat):Rat)=64:=rfl;rw[this];generalize (1/64:Rat)=q at *;grind
  rw[ex]at p;have t:(3:Rat)^64<=Ex.t2 102:=by decide +kernel
  exact xO p (xO (pow_mono (Ex.E_nn y0 L) (E_three y0 y1 L) 64) t)
theorem E_one {x:Rat} (h0:0<=x) {L:Nat} (h:1<=L:=by omega):1<=Ex.E x L:=by
 have m:=Ex.E_mono h0 h;have e1:Ex.E x 1=1:=by show (0:Rat)+1=1;decide +kernel
 rw[e1]at m;exact m
theorem near_ok {n d w g c:Nat} (hg:g=32794) (hc:c=32768) (hd:0<d) (h:n<=64*d) (hw:160<=w) :
  ∃A B:Nat,eRow w (n*2^w/(d*2^14)) (w/7+3) 1 (2^w) (2^w+1) (2^w) (2^w+1)=some (A,B)/\A<=B/\2^w<=A/\B<2^(w+2)/\2^w<=(sqs w 14 A B).1/\(sqs w 14 A B).1<=(sqs w 14 A B).2/\(sqs w 14 A B).2<2^(w+c) /\
   (sqs w 14 A B).2<=(sqs w 14 A B).1+w*2^g /\ ∀x:Rat,x*(d:Rat)=(n:Rat) -> ∃s,∀L,s<=L->Enc w (sqs w 14 A B).1 (sqs w 14 A B).2 (Ex.E x L):=by
 obtain⟨Y,hY⟩ : ∃Y:Nat,Y=n*2^w/(d*2^14):=⟨_,rfl⟩
 rw[<- hY];have dp:0<d*2^14:=by omega
 have P:0<2^w:=xM (by omega);have e8:2^w=2^(w-8)*256:=by rw[show (256:Nat)=2^8 from rfl,<- xN];congr 1;omega
 have e7:2^(w-7)=2^(w-8)*2:=by rw[<- xW];congr 1;omega
 have p8:0<2^(w-8):=xM (by omega);have Yle:Y<=2^(w-8):=by
  rw[hY];refine(yR dp).2 ?_;have m:=xB (2^w) h;have k:64*d*2^w=2^(w-8)*(d*2^14):=by
   rw[e8];generalize 2^(w-8)=z;rw[show (2:Nat)^14=16384 from rfl];grind
  omega
 have hY1:Y+1<=2^(w-7):=by omega
 obtain⟨A,B,s,r1,r2,r3,r4,r5,r6,r7⟩:=eRow_end (w:=w) (Y:=Y) (by omega) hY1 (w/7+1) (w/7+3) 1 (2^w) (2^w+1) (2^w) (2^w+1) (eInv_0 w) (by
  have:2^w<=2^(7*(w/7+1)):=xE (by omega) (by omega);omega) (by omega) (by omega)
 have lw:w<2^w:=Nat.lt_two_pow_self;have e1:2^(w+1)=2^w*2:=xW _ _;have e2:2^(w+2)=2^w*4:=xN _ _ _;obtain⟨q1,q2,q3,q4⟩:=sqs_ok 14 A B 2 w r4 r5 (by omega) (by omega) (by omega);rw[show 2*(2^14-1)+2*14=g by omega]at q4;rw[show 2*2^14=c by omega]at q3;refine⟨A,B,r1,r5,r4,by omega,q1,q2,q3,q4,fun x hx => ?_⟩;have dR:(0:Rat)<(d:Rat):=by exact_mod_cast hd
 obtain⟨j,hj⟩ : ∃j:Nat,j=2^14:=⟨_,rfl⟩
 have jR:(0:Rat)<(j:Rat):=by exact_mod_cast (by omega:0<j)
 obtain⟨y,hy⟩ : ∃y:Rat,y=x/(j:Rat):=⟨_,rfl⟩
 have jy:(j:Rat)*y=x:=by rw[hy];exact Ex.mul_div _ _ (by grind)
 have dj:(d:Rat)*(j:Rat)=((d*2^14:Nat):Rat):=by rw[<- hj];exact_mod_cast rfl
 have yd:y*((d*2^14:Nat):Rat)=(n:Rat):=by rw[<- dj,<- hx,<- jy];grind
 have dpR:(0:Rat)<((d*2^14:Nat):Rat):=by exact_mod_cast dp
 have PR:=p2_pos w;have en:Enc w Y (Y+1) y:=by
  have f:=floor_le (a:=n*2^w) (d:=d*2^14);have g:=le_floor (a:=n*2^w) (d:=d*2^14) dp;rw[<- hY]at f g;have k:((n*2^w:Nat):Rat)=y*p2 w*((d*2^14:Nat):Rat):=by
   have:((n*2^w:Nat):Rat)=(n:Rat)*p2 w:=by exact_mod_cast rfl
   rw[this,<- yd];grind
  rw[k]at f g;exact⟨le_by dpR f,le_by dpR g⟩
 have y0:=enc_nonneg en;have y1:y+y<=1:=by
  refine le_by dpR ?_;rw[Rat.add_mul,yd,yK];have:n+n<=d*2^14:=by omega
  have t:((n+n:Nat):Rat)<=((d*2^14:Nat):Rat):=by exact_mod_cast this
  have e:((n+n:Nat):Rat)=(n:Rat)+(n:Rat):=by exact_mod_cast rfl
  rw[e]at t;exact t
 have one:Enc w (2^w) (2^w+1) 1:=by
  refine⟨by rw[yK];exact xi,?_⟩;rw[yK];exact_mod_cast yq (2^w)
 have E1:Ex.E y 1=1:=by show (0:Rat)+1=1;decide +kernel
 obtain⟨s1,hs⟩:=eRow_enc en y1 (w/7+3) 0 _ _ _ _ A B r1 one (by rw[E1];exact one);refine⟨j*(s1+1)+1,fun L hL => ?_⟩;have k1:s1+1<=j*(s1+1):=zL _ (by omega);have a1:=(sqs_enc 14 A B _ (hs (s1+1) (by omega))).1;have a2:=(sqs_enc 14 A B _ (hs L (by omega))).2;rw[<- hj]at a1 a2;have u1:=Ex.E_pow_le y0 (s1+1) j;have u2:=Ex.E_pow_ge y0 (show 0<L by omega) j;rw[jy]at u1 u2;have x0:0<=x:=by rw[<- jy];exact xL (xX jR) y0
 have m:=Ex.E_mono x0 hL;exact⟨xO a1 (xA (xO u1 m) (xX PR)),xO (xA u2 (xX PR)) a2⟩
theorem cert_or {lo hi w p:Nat} (h:lo<hi) (hc:lo/2^(w-p)≠(hi-1)/2^(w-p)) : ∃u:Nat,0<u/\lo<=u*2^(w-p)/\u*2^(w-p)<=hi-1:=by
 have P:0<2^(w-p):=xM (by omega);have m:lo/2^(w-p)<=(hi-1)/2^(w-p):=xg (by omega);have lt:=Nat.lt_of_le_of_ne m hc;refine⟨(hi-1)/2^(w-p),yX (wT _) lt,?_,wk _ _⟩;have k:=Nat.lt_mul_div_succ lo P;have k2:2^(w-p)*(lo/2^(w-p)+1)<=2^(w-p)*((hi-1)/2^(w-p)):=xF _ lt;rw[xV];exact wR (xr k k2)
theorem dist_bd {w lo hi G:Nat} {q r:Rat} (h1:Enc w lo hi q) (h2:(lo:Rat)<=r*p2 w) (h3:r*p2 w<=(hi:Rat)) (hG:hi<=lo+G):Ex.Bdd ((q-r)*p2 w) (G:Rat):=by
 obtain⟨a,b⟩:=h1;have k:(hi:Rat)<=((lo+G:Nat):Rat):=by exact_mod_cast hG
 have e:((lo+G:Nat):Rat)=(lo:Rat)+(G:Rat):=by exact_mod_cast rfl
 rw[e]at k;rw[show (q-r)*p2 w=q*p2 w-r*p2 w by grind];generalize q*p2 w=x at *
 generalize r*p2 w=y at *
 constructor<;>grind
theorem bd_less {z:Rat} {w W:Nat} {G:Rat} (h:Ex.Bdd (z*p2 w) G) (hG:G*Ex.t2 W<=p2 w):Ex.Bdd (z*Ex.t2 W) 1:=by
 have P:=p2_pos w;have T:=Ex.t2_pos W;obtain⟨a,b⟩:=h;have m1:=xA a (xX T);have m2:=xA b (xX T);have e:z*p2 w*Ex.t2 W=z*Ex.t2 W*p2 w:=by grind
 rw[e]at m1 m2;constructor
 ·refine le_by P ?_;generalize z*Ex.t2 W*p2 w=y at *
  have : -G*Ex.t2 W = -(G*Ex.t2 W):=by grind
  rw[this]at m1;grind
 ·refine le_by P ?_;generalize z*Ex.t2 W*p2 w=y at *
  grind
theorem cast_p2 (u w p:Nat) (h:p<=w:=by omega):((u*2^(w-p):Nat):Rat)*p2 p=(u:Rat)*p2 w:=by
 have e:2^w=2^(w-p)*2^p:=by rw[<- xN];congr 1;omega
 have e2:p2 w=p2 (w-p)*p2 p:=by
  show ((2^w:Nat):Rat)=_;rw[e];exact_mod_cast rfl
 have e3:((u*2^(w-p):Nat):Rat)=(u:Rat)*p2 (w-p):=by exact_mod_cast rfl
 rw[e2,e3,wP]
theorem size_W {w g r W:Nat} (hW:W=371000000000) (hg:g+r<=40000) (hw:372000000000<=w) (hw2:w<=2^40):((w*2^g*2^r:Nat):Rat)*Ex.t2 W<=p2 w:=by
 have h:w*2^g*2^r*2^W<=2^w:=by
  refine xG (xB _ (xB _ (xB _ hw2))) ?_;rw[<- xN,<- xN,<- xN];exact xE (by omega) (by omega)
 have e:((w*2^g*2^r*2^W:Nat):Rat)=((w*2^g*2^r:Nat):Rat)*Ex.t2 W:=Ex.castmul _ _;rw[<- e];exact Ex.castle h
theorem near_le {e al T:Rat} (d : -1<=(e-al)*T) (T1:1<=T):al<=e+1:=by
 refine zf.1 fun h => ?_
 have m:=xI T1 (show 0<=al-e by grind);grind
theorem le_two {e al M:Rat} (h1:al<=e+1) (h2:e<=M) (h3:1<=M):al<=M+M:=by grind
theorem cert_pos {a b lo hi w p g s:Nat} {x:Rat} (ha:0<a) (hb:0<b) {sB:Nat} (hsB:sB=11000) (hb2:b<=2^sB) (hx:x*(b:Rat)=(a:Rat)) (hx2:x<=64) (hp:p<=512) (hg:g<=39000) (h:lo<hi) (hG:hi<=lo+w*2^g)
  (hE : ∀L,s<=L->Enc w lo hi (Ex.E x L)) (hw:372000000000<=w) (hw2:w<=2^40):lo/2^(w-p)=(hi-1)/2^(w-p):=by
 refine Classical.byContradiction fun hc => ?_
 obtain⟨u,u0,u1,u2⟩:=cert_or h hc;obtain⟨W,hW⟩ : ∃k:Nat,k=371000000000:=⟨_,rfl⟩
 obtain⟨sv,hsv⟩ : ∃k:Nat,k=520:=⟨_,rfl⟩
 have Pp:=p2_pos p;have P:=p2_pos w;obtain⟨al,hal⟩ : ∃r:Rat,r=(u:Rat)/p2 p:=⟨_,rfl⟩
 have ap:al*p2 p=(u:Rat):=by rw[hal];exact yD (by grind)
 have uR:(0:Rat)<(u:Rat):=Ex.castlt u0;have a0:0<al:=by
  rw[hal,xv];exact ya uR (wi.2 Pp)
 have c:=cast_p2 u w p;have ku:al*p2 w=((u*2^(w-p):Nat):Rat):=by
  refine Ex.cancel_l (c:=p2 p) (by grind) ?_;rw[wM,wM (p2 p),c,<- ap];grind
 have x0:0<=x:=by
  have bp:(0:Rat)<(b:Rat):=Ex.castlt hb;refine le_by bp ?_;rw[hx,yM];exact nat_nonneg a
 have l1:(lo:Rat)<=al*p2 w:=by rw[ku];exact Ex.castle u1
 have l2:al*p2 w<=(hi:Rat):=by rw[ku];exact Ex.castle (by omega)
 have near : ∀L,s<=L->Ex.Bdd ((Ex.E x L-al)*Ex.t2 W) 1:=by
  intro L hL;have d:=dist_bd (hE L hL) l1 l2 hG;refine bd_less d ?_;have z:=size_W (w:=w) (g:=g) (r:=0) hW (by omega) hw hw2;rw[yk,xu]at z;exact z
 have al2:al<=Ex.t2 103:=by
  have d:=near s (xU s);have e:=E_big x0 hx2 s;have t:Ex.t2 103=Ex.t2 102+Ex.t2 102:=Ex.t2_succ 102;have o:(1:Rat)<=Ex.t2 102:=by decide +kernel
  have n:=near_le d.1 (Ex.t2_mono (show 0<=W by omega));rw[t];exact le_two n e o
 obtain⟨K0,hK⟩:=Ex.exp_far (W:=W) (by omega) ha hb hsB hb2 hx hx2 hsv (v:=2^p) (u:=u) (xM (by omega)) (xE (by omega) (by omega)) ap a0 al2;exact hK (max K0 s) (Nat.le_max_left _ _) (near _ (Nat.le_max_right _ _))
theorem inv_gapE {M lo hi W:Nat} (h1:0<W) (h2:M=W*W) (h3:W<=lo) (h4:lo<hi:=by omega) (h5:hi-lo<=W:=by omega):M/lo<=M/hi+(hi-lo)+1/\M/hi<=M/lo/\M/lo<=W:=by
 have lp:0<lo:=by omega
 have hp:0<hi:=by omega
 have a:M/hi<=W:=by
  refine(yR hp).2 ?_;rw[h2];have:=xF W (show W<=hi by omega);omega
 have b:M/lo<=W:=by
  refine(yR lp).2 ?_;rw[h2];have:=xF W h3;omega
 refine⟨?_,Nat.div_le_div_left (by omega) lp,b⟩;refine Nat.le_of_lt_succ ((yA lp).2 ?_);have k:=Nat.lt_mul_div_succ M hp;obtain⟨g,hg⟩ : ∃g,hi=lo+g:=⟨hi-lo,by omega⟩
 rw[show hi-lo=g by omega];generalize M/hi=q at *
 have m1:q*g<=lo*g:=xB g (by omega);have e1:hi*(q+1)=q*lo+lo+q*g+g:=by rw[hg,xY,xZ,xZ,xV lo q,xV g q];omega
 have e2:(q+g+1).succ*lo=q*lo+lo*g+lo+lo:=by
  show (q+g+1+1)*lo=_;rw[xY,xY,xY,xV g lo,xe]
 rw[e2];rw[e1]at k;omega
theorem inv_near {e r al P G:Rat} (he:1<=e) (he2:e<=Ex.t2 102) (hr:r*al=1) (ha:0<al) (hP:0<P) (hd:Ex.Bdd ((1/e-r)*P) G) (hG:G*Ex.t2 103<=P):al<=Ex.t2 103/\Ex.Bdd ((e-al)*P) (G*Ex.t2 205):=by
 have i:e*(1/e)=1:=Ex.mul_div e 1 (by grind);have T:=Ex.t2_pos 103;have t2':Ex.t2 103=Ex.t2 102+Ex.t2 102:=Ex.t2_succ 102;have T2:=Ex.t2_pos 102;have nG:=Ex.Bdd_nn hd;have hal:al<=Ex.t2 103:=by
  refine zf.1 fun h => ?_
  have a1:1<=1/e*Ex.t2 102:=by
   have e0:0<=1/e:=Ex.div_nn (by decide) (by grind);have:=xI he2 e0;grind
  have rp:0<r:=by
   rcases zV (a:=r) (b:=0) with g|g
   ·have:=xA g (xX ha);grind
   ·by_cases z:r=0
    ·subst z;grind
    ·grind
  have a2:r*Ex.t2 103<1:=by
   have:=ya rp (show 0<al-Ex.t2 103 by grind);grind
  obtain⟨-,d2⟩:=hd;have m:=xA d2 (xX T);have a3:1<(1/e-r)*Ex.t2 103:=by
   rw[t2']at a2 ⊢;generalize 1/e=y at *
   grind
  have m2:=ya (show 0<(1/e-r)*Ex.t2 103-1 by grind) hP;have e2:((1/e-r)*Ex.t2 103-1)*P=(1/e-r)*P*Ex.t2 103-P:=by grind
  rw[e2]at m2;grind
 refine⟨hal,?_⟩;have e3:(e-al)*P=(1/e-r)*P * -(e*al):=by
  have:(1/e-r)*P * -(e*al)=(r*al)*e*P-e*(1/e)*al*P:=by grind
  rw[this,hr,i];grind
 rw[e3];have t5:Ex.t2 205=Ex.t2 102*Ex.t2 103:=Ex.t2_add 102 103;have b1:Ex.Bdd (-(e*al)) (Ex.t2 205):=by
  have n1:0<=e*al:=xL (by grind) (xX ha);have m1:=xA he2 (xX ha);have m2:=xI hal (xX T2);have m3:=xO m1 m2;rw[<- t5]at m3;constructor<;>grind
 exact Ex.Bdd_mul hd b1
theorem cert_neg {a b lo hi w p g s:Nat} {x:Rat} (ha:0<a) (hb:0<b) {sB:Nat} (hsB:sB=11000) (hb2:b<=2^sB) (hx:x*(b:Rat)=(a:Rat)) (hx2:x<=64) (hp:p<=512) (hg:g<=39000) (h0:2^w<=lo) (h:lo<hi) (hG:hi<=lo+w*2^g)
  (hE : ∀L,s<=L->Enc w lo hi (Ex.E x L)) (hw:372000000000<=w) (hw2:w<=2^40):2^(2*w)/hi/2^(w-p)=(2^(2*w)/lo+1-1)/2^(w-p):=by
 have PN:0<2^w:=xM (by omega);have gw:w*2^g<=2^w:=by
  refine xG (xB _ hw2) ?_;rw[<- xN];exact xE (by omega) (by omega)
 obtain⟨i1,i2,i3⟩:=inv_gapE (M:=2^(2*w)) (lo:=lo) (hi:=hi) PN (by rw[<- xN];congr 1;omega) h0 h;refine Classical.byContradiction fun hc => ?_
 obtain⟨u,u0,u1,u2⟩:=cert_or (lo:=2^(2*w)/hi) (hi:=2^(2*w)/lo+1) (by omega) hc;obtain⟨W,hW⟩ : ∃k:Nat,k=371000000000:=⟨_,rfl⟩
 obtain⟨sv,hsv⟩ : ∃k:Nat,k=520:=⟨_,rfl⟩
 have Pp:=p2_pos p;have P:=p2_pos w;have uR:(0:Rat)<(u:Rat):=Ex.castlt u0;obtain⟨r,hr⟩ : ∃r:Rat,r=(u:Rat)/p2 p:=⟨_,rfl⟩
 have ar:r*p2 p=(u:Rat):=by rw[hr];exact yD (by grind)
 obtain⟨al,hal⟩ : ∃r:Rat,r=p2 p/(u:Rat):=⟨_,rfl⟩
 have au:al*(u:Rat)=((2^p:Nat):Rat):=by rw[hal];exact yD (by grind)
 have a0:0<al:=by
  rw[hal,xv];exact ya Pp (wi.2 uR)
 have ra:r*al=1:=by
  refine Ex.cancel_l (c:=p2 p) (by grind) ?_;have:p2 p*(r*al)=al*(r*p2 p):=by grind
  rw[this,ar,au,yr]
 have c:=cast_p2 u w p;have ku:r*p2 w=((u*2^(w-p):Nat):Rat):=by
  refine Ex.cancel_l (c:=p2 p) (by grind) ?_;rw[wM,wM (p2 p),c,<- ar];grind
 have x0:0<=x:=by
  have bp:(0:Rat)<(b:Rat):=Ex.castlt hb;refine le_by bp ?_;rw[hx,yM];exact nat_nonneg a
 have l1:((2^(2*w)/hi:Nat):Rat)<=r*p2 w:=by rw[ku];exact Ex.castle u1
 have l2:r*p2 w<=((2^(2*w)/lo+1:Nat):Rat):=by rw[ku];exact Ex.castle (xG u2 (zY _ 1))
 have gp:1<=w*2^g:=zI (by omega) (xM (by omega));have GG:2^(2*w)/lo+1<=2^(2*w)/hi+w*2^g*2^2:=by omega
 have two : ∀L,s+1<=L->al<=Ex.t2 103/\Ex.Bdd ((Ex.E x L-al)*Ex.t2 W) 1:=by
  intro L hL;obtain⟨en,-⟩:=enc_inv (by omega) (hE L (by omega));have d:=dist_bd en l1 l2 GG;have z:=size_W (w:=w) (g:=g) (r:=2+205) hW (by omega) hw hw2;have ez:((w*2^g*2^(2+205):Nat):Rat)=((w*2^g*2^2:Nat):Rat)*Ex.t2 205:=by
   have:w*2^g*2^(2+205)=w*2^g*2^2*2^205:=by rw[xN 2 2,xP (w*2^g)]
   rw[this];exact Ex.castmul _ _
  rw[ez]at z;have nG:=nat_nonneg (w*2^g*2^2);have small:((w*2^g*2^2:Nat):Rat)*Ex.t2 103<=p2 w:=by
   have h1:w*2^g*2^2*2^103<=2^w:=by
    refine xG (xB _ (xB _ (xB _ hw2))) ?_;rw[<- xN,<- xN,<- xN];exact xE (by omega) (by omega)
   have e:((w*2^g*2^2*2^103:Nat):Rat)=((w*2^g*2^2:Nat):Rat)*Ex.t2 103:=Ex.castmul _ _;rw[<- e];exact Ex.castle h1
  obtain⟨n1,n2⟩:=inv_near (E_one x0) (E_big x0 hx2 L) ra a0 P d small;exact⟨n1,bd_less n2 z⟩
 have up:u<=2^p:=by
  have e:2^w=2^p*2^(w-p):=by rw[<- xN];congr 1;omega
  have k:u*2^(w-p)<=2^p*2^(w-p):=by rw[<- e];omega
  exact yw k (xM (by omega))
 have up2:2^p<=2^sv:=xE (by omega) (by omega);obtain⟨K0,hK⟩:=Ex.exp_far (W:=W) (by omega) ha hb hsB hb2 hx hx2 hsv (v:=u) (u:=2^p) u0 (xG up up2) au a0 (two (s+1) (xU _)).1;exact hK (max K0 (s+1)) (Nat.le_max_left _ _) (two _ (Nat.le_max_right _ _)).2
end Go.Proofs.YtfknkoeagjonbaaGreat
namespace Go.Proofs.YtfknkoeagjonbaaGreat
open Go.Ev
theorem least {P:Nat->Prop} {k:Nat} (h:P k) : ∃j,P j/\j<=k /\ ∀i,i<j -> ¬P i:=by
 induction k using Nat.strongRecOn with
 |_ k ih=>
  by_cases g : ∃i,i<k/\P i
  ·obtain⟨i,hi,hp⟩:=g;obtain⟨j,h1,h2,h3⟩:=ih i hi hp;exact⟨j,h1,by omega,h3⟩
  ·exact⟨k,h,xU k,fun i hi hp=>g ⟨i,hi,hp⟩⟩
theorem doubles {w0 M:Nat} (h0:0<w0) (h:w0<=M) : ∃k,M<=w0*2^k/\w0*2^k<2*M:=by
 have top:M<=w0*2^M:=xG (wR Nat.lt_two_pow_self) (zL _ h0);obtain⟨k,h1,-,h3⟩:=least (P:=fun k=>M<=w0*2^k) top;refine⟨k,h1,?_⟩;cases k with
 |zero=>rw[yk,xu];omega
 |succ k=>
  have:=h3 k (Nat.lt_succ_self k);rw[xW,<- xP];omega
section
variable {p sp M:Nat} {f:FuncId} {caps:List SV} {lo hi:Nat->Nat}
theorem certain_at (h0:0<p+sp) (hM:p+sp<=M) (hc : ∀w,M<=w->w<2*M->lo w/2^(w-p)=(hi w-1)/2^(w-p)) :
  ∃k,lo ((p+sp)*2^k)/2^((p+sp)*2^k-p)=(hi ((p+sp)*2^k)-1)/2^((p+sp)*2^k-p)/\(p+sp)*2^k<2*M /\ ∀i,i<k->lo ((p+sp)*2^i)/2^((p+sp)*2^i-p)≠(hi ((p+sp)*2^i)-1)/2^((p+sp)*2^i-p):=by
 obtain⟨k0,a1,a2⟩:=doubles h0 hM;obtain⟨k,b1,b2,b3⟩:=least (P:=fun k=>lo ((p+sp)*2^k)/2^((p+sp)*2^k-p)=(hi ((p+sp)*2^k)-1)/2^((p+sp)*2^k-p)) (hc _ a1 a2);refine⟨k,b1,yX (xF _ (xE (by omega) b2)) a2,b3⟩
set_option maxHeartbeats 1000000 in
theorem fix_CertainL (hsp:0<sp) (hM:p+sp<=M) (hM2:M<=380000000000) (hp:p<=10000) (hs:sp<=10000)
  (hf : ∀w:Nat,p+sp<=w->w<2*M->Go.Ev.Fn CX f (.int .i64 (w:Int)::caps) (spanV (lo w) (hi w)))
  (hl : ∀w:Nat,p+sp<=w->w<2*M->(lim (lo w)).length<=26000000000/\(lim (hi w)).length<=26000000000/\(lim (lo w/2^(w-p))).length<=5000)
  (hc : ∀w,M<=w->w<2*M->lo w/2^(w-p)=(hi w-1)/2^(w-p)) :
  ∃w,p+sp<=w/\w<2*M/\lo w/2^(w-p)=(hi w-1)/2^(w-p) /\
   Go.Ev.Fn CX 231 [.int .i64 (p:Int),.int .i64 (sp:Int),.fn f caps] (ballR (mkRat ((lo w/2^(w-p):Nat):Int) (2^p)) (mkRat ((lo w/2^(w-p)+1:Nat):Int) (2^p))):=by
 obtain⟨k,c1,c2,c3⟩:=certain_at (by omega) hM hc;obtain⟨W,hW⟩ : ∃W,W=(p+sp)*2^k:=⟨_,rfl⟩
 have pk : ∀i,p+sp<=(p+sp)*2^i:=fun i=>yg _ (xM (by omega))
 have mk : ∀i,i<=k->(p+sp)*2^i<=W:=fun i hi=>by rw[hW];exact xF _ (xE (by omega) hi)
 rw[<- hW]at c1 c2;refine⟨W,by rw[hW];exact pk k,c2,c1,?_⟩;obtain⟨la,lb,lm⟩:=hl W (by rw[hW];exact pk k) c2;have hfW:=hf W (by rw[hW];exact pk k) c2;have hpW:p<W:=by have:=pk k;omega
 have fl:=fix_Floor (a:=lo W) (b:=hi W) (w:=W) (p:=p) (by omega) (by omega) hpW;rw[decide_eq_true c1]at fl;have o:=fix_One;have l1:=lim_len1;have sh:=fix_shl (a:=1) (m:=p);have lp:=lim_len_shl (a:=1) (n:=p);rw[xe]at sh lp;have n1:=fix_Next (a:=lo W/2^(W-p));have l2:=lim_len_add (a:=lo W/2^(W-p)) (b:=1) (L:=5000);have r1:=rat_OfL (s:=false) (n:=lo W/2^(W-p)) (d:=2^p);have r2:=rat_OfL (s:=false) (n:=lo W/2^(W-p)+1) (d:=2^p);rw[show sgn false (lo W/2^(W-p))=((lo W/2^(W-p):Nat):Int) from rfl]at r1;rw[show sgn false (lo W/2^(W-p)+1)=((lo W/2^(W-p)+1:Nat):Int) from rfl]at r2
 generalize mkRat ((lo W/2^(W-p):Nat):Int) (2^p)=q1 at *
 generalize mkRat ((lo W/2^(W-p)+1:Nat):Int) (2^p)=q2 at *
 generalize lo W/2^(W-p)+1=a' at *
 generalize ha:lo W/2^(W-p)=a at *
 generalize 2^p=P at *
 -- one round that is not the last
 have rd : ∀i,i<k -> ∃x y:Nat,∃m:Nat,Go.Ev.Fn CX f (.int .i64 (((p+sp)*2^i:Nat):Int)::caps) (spanV x y)/\Go.Ev.Fn CX 284 [spanV x y,.int .i64 (((p+sp)*2^i:Nat):Int),.int .i64 (p:Int)] (.tup [natV (lim m),.bool false]):=by
  intro i hi';have h1:=pk i;have h2:=mk i (by omega);obtain⟨xa,xb,-⟩:=hl ((p+sp)*2^i) h1 (by omega);have g:=fix_Floor (a:=lo ((p+sp)*2^i)) (b:=hi ((p+sp)*2^i)) (w:=(p+sp)*2^i) (p:=p);rw[decide_eq_false (c3 i hi')]at g;exact⟨_,_,_,hf _ h1 (by omega),g⟩
 have dbl : ∀i:Nat,i<k->(p+sp)*2^i*2=(p+sp)*2^(i+1):=fun i _=>by rw[xW,xP]
 clear hc hl hf c3 c1 la lb lm l2 lp l1;refine fni Tryz.f231 ?_;unfold Tryz.f231;repeat (first|simp only[go_sem]|simp (disch:=first|exact omg|fail) only[AX]|refine wki ?_)
 refine vp_loop_inv (fun s=>s.tmp 0 = .sv (.int .i64 (p:Int))/\s.tmp 2 = .sv (.fn f caps)/\s.tmp 6 = .ptr 6 0 0/\s.obj 6 0=some [.bool false,.sl 0 [],.sl 0 [],.bool false,.sl 0 [],.sl 0 []] /\ ∃i:Nat,i<=k/\s.tmp 7 = .sv (.int .i64 (((p+sp)*2^i:Nat):Int)))
  (fun s=>match s.tmp 7 with | .sv (.int _ j)=>800000000000-j.toNat|_=>0) ⟨rfl,rfl,rfl,rfl,0,by omega,by rw[yk,xu];rfl⟩ ?_
 rintro s ⟨i0,i2,i6,o6,i,hi',i7⟩
 by_cases e:i=k
 ·subst e;rw[<- hW]at i7;clear rd dbl;repeat (first|simp only[go_sem,i0,i2,i6,o6,i7]|simp (disch:=first|exact omg|fail) only[AX,i0,i2,i6,o6,i7]|refine wki ?_|refine vfa ?_)
 ·obtain⟨x,y,m,g1,g2⟩:=rd i (by omega);have h1:=mk (i+1) (by omega);have h3:=pk i;have h2:=dbl i (by omega);have e2:(((p+sp)*2^(i+1):Nat):Int)=(((p+sp)*2^i:Nat):Int)*2:=by rw[<- h2];exact xw _ _
  clear rd dbl hfW fl;generalize hv:(p+sp)*2^(i+1)=v at *
  generalize (p+sp)*2^i=u at *
  repeat (first|simp only[go_sem,i0,i2,i6,o6,i7]|simp (disch:=first|exact omg|fail) only[AX,i0,i2,i6,o6,i7]|refine wki ?_|refine vfa ?_)
  exact⟨⟨i+1,by omega,by rw[hv,e2]⟩,by omega⟩
end
end Go.Proofs.YtfknkoeagjonbaaGreat
namespace Go.Proofs.YtfknkoeagjonbaaGreat
open Go.Ev
theorem lim_len_pw {n w:Nat} (h:n<2^w:=by omega):(lim n).length<=w/32+1:=by
 refine lim_len_lt (xr h ?_);rw[show (4294967296:Nat)=2^32 from rfl,<- zJ];exact xE (by omega) (by omega)
set_option maxHeartbeats 1000000 in
theorem exps_row {w Y A B:Nat} (hw:64<=w) (hw2:w<=800000000000) (hY:Y+1<=2^(w-7)) (h:eRow w Y (w/7+3) 1 (2^w) (2^w+1) (2^w) (2^w+1)=some (A,B)) :
  Go.Ev.Fn CX 285 [spanV Y (Y+1),.int .i64 (w:Int)] (spanV A B):=by
 have un:=fix_Unit (w:=w);have lw:w<2^w:=Nat.lt_two_pow_self;have e1:2^(w+1)=2^w*2:=xW _ _;have e2:2^(w+2)=2^w*4:=xN _ _ _;have hYw:2^(w-7)<=2^w:=xE (by omega) (by omega);have lY:=lim_len_pw (n:=Y) (w:=w+2);have lY1:=lim_len_pw (n:=Y+1) (w:=w+2);have i0:=eInv_0 w;have lens:=fun (n t1 t2 a1 a2:Nat) (hn:n<=w/7+4) (h:eInv w n t1 t2 a1 a2)=>(show (lim t1).length<=27000000000/\(lim t2).length<=27000000000/\(lim a1).length<=27000000000/\(lim a2).length<=27000000000 from by
  obtain⟨q1,q2,q3,q4,q5,q6,q7,q8⟩:=h;have a:=lim_len_pw (n:=t1) (w:=w+2);have b:=lim_len_pw (n:=t2) (w:=w+2);have c:=lim_len_pw (n:=a1) (w:=w+2);have d:=lim_len_pw (n:=a2) (w:=w+2);exact⟨by omega,by omega,by omega,by omega⟩)
 have step:=fun (n t1 t2 a1 a2:Nat) (h:eInv w n t1 t2 a1 a2)=>eInv_step (Y:=Y) hw hY h
 generalize hP:2^w=P at un h i0;clear e1 e2 lw;refine fni Tryz.f285 ?_;unfold Tryz.f285;repeat (first|simp only[go_sem]|simp (disch:=first|exact omg|fail) only[AX]|refine wki ?_|refine vfa ?_)
 refine vp_loop_inv (fun s=>s.tmp 1 = .sv (.int .i64 (w:Int))/\s.tmp 2 = .ptr 2 0 0/\s.obj 2 0=some [natV (lim Y),natV (lim (Y+1))]/\s.tmp 4 = .ptr 4 0 0/\s.obj 4 0=some [.sl 0 [],.sl 0 []]/\s.tmp 5 = .ptr 5 0 0/\s.tmp 6 = .ptr 6 0 0 /\
   ∃f n t1 t2 a1 a2:Nat,s.tmp 7 = .sv (.int .u64 (n:Int))/\f+n=w/7+4/\eRow w Y f n t1 t2 a1 a2=some (A,B)/\s.obj 6 0=some [natV (lim t1),natV (lim t2)]/\s.obj 5 0=some [natV (lim a1),natV (lim a2)]/\eInv w n t1 t2 a1 a2)
  (fun s=>match s.tmp 7 with | .sv (.int _ i)=>w/7+5-i.toNat|_=>0) ⟨rfl,rfl,rfl,rfl,rfl,rfl,rfl,w/7+3,1,P,P+1,P,P+1,rfl,by omega,h,rfl,rfl,i0⟩ ?_
 rintro s ⟨i1,i2,o2,i4,o4,i5,i6,f,n,t1,t2,a1,a2,i7,hfn,hgo,o6,o5,hok⟩
 obtain⟨lt1,lt2,la1,la2⟩:=lens n t1 t2 a1 a2 (by omega) hok;have hn1:=hok.1;have st:=step n t1 t2 a1 a2 hok;have sm:=fix_Small (a:=t1) (b:=t2) (k:=1);cases f with
 |zero=>simp only[eRow]at hgo;cases hgo
 |succ f=>
  rw[eRow]at hgo;by_cases hs:t2<2
  ·rw[if_pos hs]at hgo;simp only[Option.some.injEq,Prod.mk.injEq]at hgo;obtain⟨rfl,rfl⟩:=hgo;rw[decide_eq_true (show t2<2^1 from hs)]at sm;have wd:=fix_Wider (a:=a1) (b:=a2) (n:=1);clear step lens st h un;repeat (first|simp only[go_sem,i1,i2,o2,i4,o4,i5,i6,i7,o5,o6,xQ]|simp (disch:=first|exact omg|fail) only[AX,i1,i2,o2,i4,o4,i5,i6,i7,o5,o6,xQ]|refine wki ?_|refine vfa ?_)
  ·rw[if_neg hs]at hgo;rw[decide_eq_false (show ¬t2<2^1 from hs)]at sm;obtain⟨lu1,lu2,lb1,lb2⟩:=lens (n+1) _ _ _ _ (by omega) st;have mu:=fix_Mul (a:=t1) (b:=t2) (c:=Y) (d:=Y+1) (w:=w);have o1:=fix_One;have q1:=nat_Of n;have l1:=lim_len1;have lq:(lim n).length<=2:=lim_len_lt;have z1:=lim_len_mul (a:=t1) (b:=Y);have z2:=lim_len_mul (a:=t2) (b:=Y+1);have z3:=lim_len_mono (xt (t1*Y) (2^w));have z4:=lim_len_add (a:=t2*(Y+1)/2^w) (b:=1) (L:=54000000000) (xG (lim_len_mono (xt (t2*(Y+1)) (2^w))) (by omega));have ti:=fix_Times (a:=t1*Y/2^w) (b:=t2*(Y+1)/2^w+1) (n:=1) (d:=n)
   generalize t1*Y/2^w*1/n=u1 at *
   generalize (t2*(Y+1)/2^w+1)*1/n+1=u2 at *
   generalize t1*Y/2^w=v1 at *
   generalize t2*(Y+1)/2^w+1=v2 at *
   have ad:=fix_Add (a:=a1) (b:=a2) (c:=u1) (d:=u2);clear step lens h un;repeat (first|simp only[go_sem,i1,i2,o2,i4,o4,i5,i6,i7,o5,o6,xn]|simp (disch:=first|exact omg|fail) only[AX,i1,i2,o2,i4,o4,i5,i6,i7,o5,o6,xn]|refine wki ?_|refine vfa ?_)
   exact⟨⟨f,n+1,u1,u2,a1+u1,a2+u2,rfl,by omega,hgo,rfl,rfl,st⟩,by omega⟩
def nearS (n d w:Nat) (R:Nat×Nat):Prop := ∃A B:Nat,eRow w (n*2^w/(d*2^14)) (w/7+3) 1 (2^w) (2^w+1) (2^w) (2^w+1)=some (A,B)/\A<=B/\2^w<=A/\B<2^(w+2)/\R=sqs w 14 A B
def nearR (neg:Bool) (w:Nat) (R:Nat×Nat):Nat×Nat:=if neg then (2^(2*w)/R.2,2^(2*w)/R.1+1) else R
set_option maxHeartbeats 1000000 in
theorem exps_near {s:Bool} {n d w:Nat} {R:Nat×Nat} (hd:0<d) (h:n<=64*d) (hw:160<=w) (hw2:w<=800000000000) (ln:(lim n).length<=1000) (ld:(lim d).length<=1000) (hR:nearS n d w R) :
  Go.Ev.Fn CX 233 [ratV s (lim n) (lim d),.int .i64 (w:Int)] (spanV (nearR s w R).1 (nearR s w R).2):=by
 obtain⟨A,B,hr,hAB,hA,hB,rfl⟩:=hR;have sh:=fix_shl (a:=d) (m:=14);have ls:=lim_len_shl (a:=d) (n:=14);have dp:0<d*2^14:=by omega
 have of:=fix_Of (n:=n) (d:=d*2^14) (w:=w);have hY:n*2^w/(d*2^14)+1<=2^(w-7):=by
  have e8:2^w=2^(w-8)*256:=by rw[show (256:Nat)=2^8 from rfl,<- xN];congr 1;omega
  have e7:2^(w-7)=2^(w-8)*2:=by rw[<- xW];congr 1;omega
  have p8:0<2^(w-8):=xM (by omega);have Yle:n*2^w/(d*2^14)<=2^(w-8):=by
   refine(yR dp).2 ?_;have m:=xB (2^w) h;have k:64*d*2^w=2^(w-8)*(d*2^14):=by
    rw[e8];generalize 2^(w-8)=z;rw[show (2:Nat)^14=16384 from rfl];grind
   omega
  omega
 have rw1:=exps_row (w:=w) (by omega) (by omega) hY hr;generalize hY':n*2^w/(d*2^14)=Y at *
 have e14:d*2^14=d*16384:=rfl;generalize d*2^14=d' at *
 clear hr hY ln ld ls;obtain⟨c14,hc14⟩ : ∃c:Nat,c=32768:=⟨_,rfl⟩
 have fin:=sqs_ok (w:=w) 14 A B 2 (B-A+1) hA hAB hB (by omega) (by omega);obtain⟨R1,R2,hRR⟩ : ∃R1 R2:Nat,sqs w 14 A B=(R1,R2):=⟨_,_,rfl⟩
 rw[hRR]at fin ⊢;obtain⟨f1,f2,f3,-⟩:=fin;rw[show 2*2^14=c14 by omega]at f3;simp only at f1 f2 f3;have Pw:0<2^w:=xM (by omega);have lR1:=lim_len_pw (n:=R1) (w:=w+c14);have lR2:=lim_len_pw (n:=R2) (w:=w+c14);have inv:=fix_Inverse (a:=R1) (b:=R2) (w:=w);have loop : ∀ (k lo hi c:Nat),2^w<=lo->lo<=hi->hi<2^(w+c)->c*2^k<=c14->1<=k->(Go.Ev.Fn CX 163 [spanV lo hi,spanV lo hi,.int .i64 (w:Int)] (spanV (lo*lo/2^w) (hi*hi/2^w+1))/\2^w<=lo*lo/2^w/\lo*lo/2^w<=hi*hi/2^w+1/\hi*hi/2^w+1<2^(w+(c+c))/\(c+c)*2^(k-1)<=c14):=by
  intro k lo hi c h1 h2 h3 h4 h5;obtain⟨s1,s2,s3,-⟩:=sq_step h1 h2 h3 (G:=hi-lo+1);have hc:c<=c14:=xG (yg _ (xM (by omega))) h4;have l1:=lim_len_pw (n:=lo) (w:=w+c);have l2:=lim_len_pw (n:=hi) (w:=w+c) h3;have mu:=fix_Mul (a:=lo) (b:=hi) (c:=lo) (d:=hi) (w:=w);refine⟨mu,s1,s2,s3,?_⟩;have e:(c+c)*2^(k-1)=c*2^k:=by
   obtain⟨j,rfl⟩ : ∃j,k=j+1:=⟨k-1,by omega⟩
   rw[wV,xW,<- Nat.mul_two,xP,xV 2]
  rw[e];exact h4
 refine fni Tryz.f233 ?_;unfold Tryz.f233;repeat (first|simp only[go_sem]|simp (disch:=first|exact omg|fail) only[AX]|refine wki ?_|refine vpd 1 [10,8,11] ?_|refine vfa ?_)
 refine vp_loop_inv (fun s'=>s'.tmp 1 = .sv (.int .i64 (w:Int))/\s'.tmp 2 = .ptr 2 0 0/\s'.obj 2 0=some [.bool s,natV (lim n),natV (lim d)]/\s'.tmp 4 = .ptr 4 0 0/\s'.obj 4 0=some [.sl 0 [],.sl 0 []]/\s'.tmp 6 = .ptr 6 0 0 /\
   ∃k lo hi c:Nat,s'.tmp 17 = .sv (.int .i64 ((14-k:Nat):Int))/\k<=14/\s'.obj 6 0=some [natV (lim lo),natV (lim hi)]/\sqs w k lo hi=(R1,R2)/\2^w<=lo/\lo<=hi/\hi<2^(w+c)/\c*2^k<=c14)
  (fun s'=>match s'.tmp 17 with | .sv (.int _ i)=>15-i.toNat|_=>0) ⟨rfl,rfl,rfl,rfl,rfl,rfl,14,A,B,2,rfl,by omega,rfl,hRR,hA,hAB,hB,by omega⟩ ?_
 rintro s' ⟨i1,i2,o2,i4,o4,i6,k,lo,hi,c,i17,hk,o6,hsq,g1,g2,g3,g4⟩
 cases k with
 |zero=>
  have hsq':(lo,hi)=(R1,R2):=hsq;simp only[Prod.mk.injEq]at hsq';obtain⟨rfl,rfl⟩:=hsq';clear loop;cases s with
  |true=>
   show _;unfold nearR;rw[if_pos rfl];repeat (first|simp only[go_sem,i1,i2,o2,i4,o4,i6,i17,o6]|simp (disch:=first|exact omg|fail) only[AX,i1,i2,o2,i4,o4,i6,i17,o6]|refine wki ?_|refine vpd 1 [10,8,11] ?_|refine vfa ?_)
  |false=>
   unfold nearR;rw[if_neg (by simp)];repeat (first|simp only[go_sem,i1,i2,o2,i4,o4,i6,i17,o6]|simp (disch:=first|exact omg|fail) only[AX,i1,i2,o2,i4,o4,i6,i17,o6]|refine wki ?_|refine vpd 1 [10,8,11] ?_)
 |succ k=>
  obtain⟨mu,s1,s2,s3,s4⟩:=loop (k+1) lo hi c g1 g2 g3 g4 (by omega);rw[wV]at s4;have hsq':sqs w k (lo*lo/2^w) (hi*hi/2^w+1)=(R1,R2):=hsq;clear loop hsq;generalize lo*lo/2^w=lo' at *
  generalize hi*hi/2^w+1=hi' at *
  repeat (first|simp only[go_sem,i1,i2,o2,i4,o4,i6,i17,o6]|simp (disch:=first|exact omg|fail) only[AX,i1,i2,o2,i4,o4,i6,i17,o6]|refine wki ?_|refine vpd 1 [10,8,11] ?_|refine vfa ?_)
  exact⟨⟨k,lo',hi',c+c,by congr 2;omega,by omega,rfl,hsq',s1,s2,s3,s4⟩,by omega⟩
end Go.Proofs.YtfknkoeagjonbaaGreat
namespace Go.Proofs.YtfknkoeagjonbaaGreat
open Go.Ev
def evX (x:Rat) (L:Nat):Rat:=if x<0 then 1/Ex.E (-x) L else Ex.E x L
def nearF (n d w:Nat):Nat×Nat:=match eRow w (n*2^w/(d*2^14)) (w/7+3) 1 (2^w) (2^w+1) (2^w) (2^w+1) with
 |some (A,B)=>sqs w 14 A B
 |none=>(0,0)
theorem nearF_ok {n d w g c:Nat} (hg:g=32794) (hc:c=32768) (hd:0<d) (h:n<=64*d) (hw:160<=w) :
  nearS n d w (nearF n d w)/\2^w<=(nearF n d w).1/\(nearF n d w).1<(nearF n d w).2/\(nearF n d w).2<2^(w+c)/\(nearF n d w).2<=(nearF n d w).1+w*2^g /\
   ∀x:Rat,x*(d:Rat)=(n:Rat) -> ∃s,∀L,s<=L->Enc w (nearF n d w).1 (nearF n d w).2 (Ex.E x L):=by
 obtain⟨A,B,r1,r2,r3,r4,r5,r6,r7,r8,r9⟩:=near_ok hg hc hd h hw;have e:nearF n d w=sqs w 14 A B:=by unfold nearF;rw[r1]
 rw[e];have strict : ∀ (k lo hi:Nat),lo<=hi->(sqs w (k+1) lo hi).1<(sqs w (k+1) lo hi).2:=by
  intro k;induction k with
  |zero=>
   intro lo hi h;show lo*lo/2^w<hi*hi/2^w+1;exact Nat.lt_succ_of_le (xg (xJ h h))
  |succ k ih=>
   intro lo hi h;exact ih _ _ (yZ (xg (xJ h h)))
 exact⟨⟨A,B,r1,r2,r3,r4,rfl⟩,r5,strict 13 A B r2,r7,r8,r9⟩
theorem exps_Exp1 {s:Bool} {n d:List Nat} {w:Nat} {r1 r2:Nat} (h:Go.Ev.Fn CX 233 [ratV s n d,.int .i64 (w:Int)] (spanV r1 r2)) :
  Go.Ev.Fn CX 232 [.int .i64 (w:Int),.mem [.bool s,natV n,natV d]] (spanV r1 r2):=by
 refine fni Tryz.f232 ?_;unfold Tryz.f232;repeat (first|simp only[go_sem]|simp (disch:=first|exact omg|fail) only[AX]|refine wki ?_|refine vfa ?_)
theorem neg_numX {x:Rat}:decide (x.num<0)=decide (x<0):=by
 have h:=zP (q:=x);refine decide_eq_decide.2 ⟨fun g => ?_,fun g => ?_⟩
 ·have : ¬0<=x:=fun k=>absurd (h.2 k) (by omega)
  grind
 ·rcases Int.lt_or_le x.num 0 with k|k
  ·exact k
  ·exact absurd (h.1 k) (by grind)
section
variable {v:SV} {x:Rat} {L P:Nat} {pI:Int}
theorem exp_end {n d:Nat} {neg:Bool} (hn0:0<n) (hd:0<d) (h:n<=64*d) {sB:Nat} (hsB:sB=11000) (hd2:d<=2^sB) (hP:P<=512) (ln:(lim n).length<=1000) (ld:(lim d).length<=1000) :
  ∃m s0:Nat,(lim m).length<=5000/\Go.Ev.Fn CX 231 [.int .i64 (P:Int),.int .i64 160,.fn 232 [.mem [.bool neg,natV (lim n),natV (lim d)]]] (ballR (mkRat (m:Int) (2^P)) (mkRat ((m+1:Nat):Int) (2^P))) /\
   ∀x:Rat,x*(d:Rat)=(n:Rat) -> ∃s0,∀L,s0<=L->Enc P m (m+1) (if neg then 1/Ex.E x L else Ex.E x L):=by
 obtain⟨g,hg⟩ : ∃g:Nat,g=32794:=⟨_,rfl⟩
 obtain⟨c,hc⟩ : ∃g:Nat,g=32768:=⟨_,rfl⟩
 have ok:=fun w (hw:160<=w)=>nearF_ok (n:=n) (d:=d) (w:=w) hg hc hd h hw
 have dR:(0:Rat)<(d:Rat):=by exact_mod_cast hd
 obtain⟨q,hq⟩ : ∃q:Rat,q=(n:Rat)/(d:Rat):=⟨_,rfl⟩
 have qd:q*(d:Rat)=(n:Rat):=by rw[hq];exact yD (by grind)
 have q64:q<=64:=by
  refine le_by dR ?_;rw[qd];have:((n:Nat):Rat)<=((64*d:Nat):Rat):=Ex.castle h;rw[Ex.castmul]at this;exact this
 have cert : ∀w,372000000000<=w->w<2*372000000000->(nearR neg w (nearF n d w)).1/2^(w-P)=((nearR neg w (nearF n d w)).2-1)/2^(w-P):=by
  intro w hw hw2;obtain⟨-,o1,o2,o3,o4,o5⟩:=ok w (by omega);obtain⟨s,hs⟩:=o5 q qd;have w40:w<=2^40:=by omega
  cases neg with
  |false=>
   unfold nearR;rw[if_neg (by simp)];exact cert_pos hn0 hd hsB hd2 qd q64 hP (by omega) o2 o4 hs hw w40
  |true=>
   unfold nearR;rw[if_pos rfl];exact cert_neg hn0 hd hsB hd2 qd q64 hP (by omega) o1 o2 o4 hs hw w40
 have size : ∀w,160<=w->w<2*372000000000->P<=w->(nearR neg w (nearF n d w)).1<2^(w+c)/\(nearR neg w (nearF n d w)).2<2^(w+c):=by
  intro w hw hw2 hPw;obtain⟨-,o1,o2,o3,o4,-⟩:=ok w hw;cases neg with
  |false=>
   unfold nearR;rw[if_neg (by simp)];exact⟨by omega,o3⟩
  |true=>
   unfold nearR;rw[if_pos rfl];have Pw:0<2^w:=xM (by omega);have e2:2^(2*w)=2^w*2^w:=by rw[<- xN];congr 1;omega
   have big:2^w*4<=2^(w+c):=by
    rw[show (4:Nat)=2^2 from rfl,<- xN];exact xE (by omega) (by omega)
   have one : ∀z:Nat,2^w<=z->2^(2*w)/z<=2^w:=by
    intro z hz;refine(yR (by omega)).2 ?_;rw[e2];have:=xF (2^w) hz;omega
   have a:=one (nearF n d w).2 (by omega);have b:=one (nearF n d w).1 o1;constructor
   ·show 2^(2*w)/(nearF n d w).2<_;omega
   ·show 2^(2*w)/(nearF n d w).1+1<_;omega
 obtain⟨w,w1,w2,w3,fn⟩:=fix_CertainL (p:=P) (sp:=160) (M:=372000000000) (f:=232) (caps:=[.mem [.bool neg,natV (lim n),natV (lim d)]]) (lo:=fun w=>(nearR neg w (nearF n d w)).1) (hi:=fun w=>(nearR neg w (nearF n d w)).2) (by omega) (by omega) (by omega) (by omega) (by omega)
  (fun w hw hw2=>exps_Exp1 (exps_near hd h (by omega) (by omega) ln ld (ok w (by omega)).1))
  (fun w hw hw2=>by
   obtain⟨z1,z2⟩:=size w (by omega) hw2 (by omega);have a:=lim_len_pw z1;have b:=lim_len_pw z2;have m:(nearR neg w (nearF n d w)).1/2^(w-P)<2^(P+c):=by
    refine(yA (xM (by omega))).2 ?_;rw[<- xN,show P+c+(w-P)=w+c by omega];exact z1
   have l:=lim_len_pw m;exact⟨by omega,by omega,by omega⟩)
  cert
 obtain⟨z1,-⟩:=size w (by omega) w2 (by omega);obtain⟨-,o1,o2,o3,o4,o5⟩:=ok w (by omega);obtain⟨m,hm⟩ : ∃m,m=(nearR neg w (nearF n d w)).1/2^(w-P):=⟨_,rfl⟩
 have lm:m<2^(P+c):=by
  rw[hm];refine(yA (xM (by omega))).2 ?_;rw[<- xN,show P+c+(w-P)=w+c by omega];exact z1
 have ll:=lim_len_pw lm;refine⟨m,0,by omega,by rw[hm];exact fn,fun x hx => ?_⟩;obtain⟨s0,hs⟩:=o5 x hx;refine⟨s0,fun L hL => ?_⟩;have en:Enc w (nearR neg w (nearF n d w)).1 (nearR neg w (nearF n d w)).2 (if neg then 1/Ex.E x L else Ex.E x L):=by
  cases neg with
  |false=>
   unfold nearR;rw[if_neg (by simp),if_neg (by simp)];exact hs L hL
  |true=>
   unfold nearR;rw[if_pos rfl,if_pos rfl];exact(enc_inv (by have:0<2^w:=xM (by omega);omega) (hs L hL)).1
 have pos2:0<(nearR neg w (nearF n d w)).2:=by
  cases neg with
  |false=>unfold nearR;rw[if_neg (by simp)];omega
  |true=>unfold nearR;rw[if_pos rfl];exact Nat.succ_pos _
 have w3':m=((nearR neg w (nearF n d w)).2-1)/2^(w-P):=by rw[hm];exact w3
 generalize (if neg then 1/Ex.E x L else Ex.E x L)=z at *
 generalize (nearR neg w (nearF n d w)).1=lo at *
 generalize (nearR neg w (nearF n d w)).2=hi at *
 have Pw:=p2_pos (w-P);have e:p2 w=p2 P*p2 (w-P):=by
  have:w=P+(w-P):=by omega
  have e2:2^w=2^P*2^(w-P):=by rw[<- xN];congr 1
  show ((2^w:Nat):Rat)=_;rw[e2];exact Ex.castmul _ _
 obtain⟨b1,b2⟩:=en;rw[e,<- wP]at b1 b2;constructor
 ·refine le_by Pw ?_;have k:m*2^(w-P)<=lo:=by rw[hm];exact wk _ _
  have k2:=Ex.castle k;rw[Ex.castmul]at k2;exact xO k2 b1
 ·refine le_by Pw ?_;have k:hi<=(m+1)*2^(w-P):=by
   have:=Nat.lt_mul_div_succ (hi-1) (show 0<2^(w-P) from xM (by omega));rw[<- w3',xV]at this;omega
  have k2:=Ex.castle k;rw[Ex.castmul]at k2;exact xO b2 k2
theorem exps_Exp (hv:RatA v x L) (hL1:1<=L) (hL:L<=343) (hx0:x≠0) (h1 : -64<=x) (h2:x<=64) (hd : ∀s:Nat,s=11000->x.den<=2^s) (hP:P<=512) (hpI:(pI<=0/\P=0)\/pI=(P:Int)) :
  ∃m:Nat,(lim m).length<=5000/\Go.Ev.Fn CX 162 [v,.int .i64 pI] (.tup [ballR (mkRat (m:Int) (2^P)) (mkRat ((m+1:Nat):Int) (2^P)),.bool true]) /\ ∃s0,∀L,s0<=L->Enc P m (m+1) (evX x L):=by
 have zx:=szR_of hv hL1;have n1:=rat_Norm hv;have im:=rat_Int (-64);have ip:=rat_Int 64;have c1:=rat_Cmp (RatA_rv zx) (RatA_rv (int_szR (n := -64))) hL1;have c2:=rat_Cmp (RatA_rv zx) (RatA_rv (int_szR (n:=64))) hL1;have zr:=rat_Zero (RatA_rv zx) hL1;rw[decide_eq_false hx0]at zr;have e1:decide (cmpR x ((-64:Int):Rat)<0)=false:=by rw[cmpR_lt];exact decide_eq_false (zf.2 h1)
 have e2:decide (cmpR x ((64:Int):Rat)>0)=false:=by rw[cmpR_gt];exact decide_eq_false (zf.2 h2)
 have dp:=x.den_pos;have dR:(0:Rat)<(x.den:Rat):=by exact_mod_cast dp
 have nd:=Ex.denR x;have n0:0<x.num.natAbs:=by
  have:x.num≠0:=fun e=>hx0 (num_zero.1 e)
  omega
 have xm:x.num<=64*(x.den:Int) /\ -(64*(x.den:Int))<=x.num:=by
  constructor
  ·have m:=xA h2 (xX dR);rw[nd]at m;have:(x.num:Rat)<=((64*(x.den:Int):Int):Rat):=by rw[wm];exact m
   exact wF.1 this
  ·have m:=xA h1 (xX dR);rw[nd]at m;have:((-(64*(x.den:Int)):Int):Rat)<=(x.num:Rat):=by
    rw[Rat.intCast_neg,wm];have e : -(((64:Int):Rat)*((x.den:Int):Rat)) = -64*(x.den:Rat):=by
     have e3:((x.den:Int):Rat)=(x.den:Rat):=rfl;have e4:((64:Int):Rat)=64:=rfl;rw[e3,e4];grind
    rw[e];exact m
   exact wF.1 this
 obtain⟨sB,hsB⟩ : ∃s:Nat,s=11000:=⟨_,rfl⟩
 have hd:=hd sB hsB;obtain⟨m,-,lm,fn,en⟩:=exp_end (P:=P) (n:=x.num.natAbs) (d:=x.den) (neg:=decide (x.num<0)) n0 dp (by omega) hsB hd hP (xG zx.1 (by omega)) (xG zx.2 (by omega));have x1:(if (0:Int)>pI then (0:Int) else pI)=(P:Int):=by split<;>omega
 have x2:(if (512:Int)<(P:Int) then (512:Int) else (P:Int))=(P:Int):=if_neg (by omega);refine⟨m,lm,?_,?_⟩
 ·clear en nd xm zx h1 h2 hx0 hpI;obtain⟨s,n,d,rfl,-⟩:=hv;generalize mkRat (m:Int) (2^P)=q1 at *
  generalize mkRat ((m+1:Nat):Int) (2^P)=q2 at *
  generalize cmpR x ((-64:Int):Rat)=y1 at *
  generalize cmpR x ((64:Int):Rat)=y2 at *
  refine fni Tryz.f162 ?_;unfold Tryz.f162;repeat (first|simp only[go_sem,x1,x2,e1,e2,wj,Array.size_empty]|simp (disch:=first|exact omg|fail) only[AX,x1,x2,e1,e2,wj,Array.size_empty]|refine wki ?_|refine vpd 2 [] ?_|refine vfa ?_)
 ·by_cases hneg:x.num<0
  ·have xneg:x<0:=by
    have:=neg_numX (x:=x);rw[decide_eq_true hneg]at this;exact of_decide_eq_true this.symm
   obtain⟨s0,hs⟩:=en (-x) (by
    have e:(x.num.natAbs:Int) = -x.num:=by omega
    have e2:((x.num.natAbs:Nat):Rat)=((x.num.natAbs:Int):Rat):=rfl;rw[e2,e,Rat.intCast_neg,<- nd];grind)
   rw[decide_eq_true hneg]at hs;refine⟨s0,fun L hL => ?_⟩;unfold evX;rw[if_pos xneg];exact hs L hL
  ·have xpos : ¬x<0:=by
    have:=neg_numX (x:=x);rw[decide_eq_false hneg]at this;exact of_decide_eq_false this.symm
   obtain⟨s0,hs⟩:=en x (by
    have e:(x.num.natAbs:Int)=x.num:=by omega
    have e2:((x.num.natAbs:Nat):Rat)=((x.num.natAbs:Int):Rat):=rfl;rw[e2,e,<- nd])
   rw[decide_eq_false hneg]at hs;refine⟨s0,fun L hL => ?_⟩;unfold evX;rw[if_neg xpos];exact hs L hL
end
end Go.Proofs.YtfknkoeagjonbaaGreat
namespace Go.Proofs.YtfknkoeagjonbaaGreat
open Go.Ev
theorem tm_neg (y:Rat) : ∀m,Ex.tm (-y) m=if m%2=1 then -Ex.tm y m else Ex.tm y m
 |0=>rfl
 |m+1=>by
  have ih:=tm_neg y m;show Ex.tm (-y) m * -y/((m+1:Nat):Rat)=if (m+1)%2=1 then -(Ex.tm y m*y/((m+1:Nat):Rat)) else Ex.tm y m*y/((m+1:Nat):Rat)
  rw[xv,xv];by_cases h:m%2=1
  ·rw[if_pos h]at ih;rw[ih,if_neg (by omega)];grind
  ·rw[if_neg h]at ih;rw[ih,if_pos (by omega)];grind
theorem tm_negB {y:Rat} (h:0<=y) (m:Nat):Ex.Bdd (Ex.tm (-y) m) (Ex.tm y m):=by
 have n:=Ex.tm_nn h m;rw[tm_neg];by_cases g:m%2=1
 ·rw[if_pos g];constructor<;>grind
 ·rw[if_neg g];constructor<;>grind
theorem pe_negB {y:Rat} (h:0<=y) (N:Nat) : ∀c,Ex.Bdd (Ex.E (-y) c*Ex.E y N-Ex.pe (-y) y N c) (Ex.E y c*Ex.E y N-Ex.pe y y N c)
 |0=>by
  show Ex.Bdd (0*_-0) (0*_-0);rw[yM];exact⟨by decide +kernel,by decide +kernel⟩
 |c+1=>by
  have ih:=pe_negB h N c;have m:=Ex.E_mono h (zY N c);have d:Ex.Bdd (Ex.E y N-Ex.E y (N-c)) (Ex.E y N-Ex.E y (N-c)):=by
   generalize Ex.E y N=a at *
   generalize Ex.E y (N-c)=b at *
   clear ih;constructor<;>grind
  have t:=Ex.Bdd_add ih (Ex.Bdd_mul (tm_negB h c) d);have e1:Ex.E (-y) (c+1)*Ex.E y N-Ex.pe (-y) y N (c+1)=Ex.E (-y) c*Ex.E y N-Ex.pe (-y) y N c+Ex.tm (-y) c*(Ex.E y N-Ex.E y (N-c)):=by
   show (Ex.E (-y) c+Ex.tm (-y) c)*Ex.E y N-(Ex.pe (-y) y N c+Ex.tm (-y) c*Ex.E y (N-c))=_;grind
  have e2:Ex.E y (c+1)*Ex.E y N-Ex.pe y y N (c+1)=Ex.E y c*Ex.E y N-Ex.pe y y N c+Ex.tm y c*(Ex.E y N-Ex.E y (N-c)):=by
   show (Ex.E y c+Ex.tm y c)*Ex.E y N-(Ex.pe y y N c+Ex.tm y c*Ex.E y (N-c))=_;grind
  rw[e1,e2];exact t
theorem E_inv {y:Rat} (h:0<=y) {L:Nat} (h1:1<=L) (h2:(y+y)+(y+y)<=((L+1:Nat):Rat)):Ex.Bdd (Ex.E (-y) L-1/Ex.E y L) (2*Ex.tm (y+y) L):=by
 have a:=pe_negB h L L;rw[Ex.pe_full,Ex.pe_full,show -y+y=0 by grind]at a;obtain⟨k,rfl⟩ : ∃k,L=k+1:=⟨L-1,by omega⟩
 rw[Ex.E_zero]at a;have b:=Ex.E_add_ge h h (k+1) (k+1);have c:=Ex.E_tail_le (L:=k+1+(k+1)) (show 0<=y+y by grind) h2;have one:=E_one h h1;have iv:Ex.E y (k+1)*(1/Ex.E y (k+1))=1:=Ex.mul_div _ 1 (by grind);have i0:0<=1/Ex.E y (k+1):=Ex.div_nn (by decide) (by grind);have i1:1/Ex.E y (k+1)<=1:=by
  have:=xA one i0;rw[iv,yK]at this;exact this
 generalize 1/Ex.E y (k+1)=i at *
 have bi:Ex.Bdd i 1:=⟨by grind,i1⟩
 have m:=Ex.Bdd_mul (Ex.Bdd_mono a (show _<=2*Ex.tm (y+y) (k+1) by grind)) bi;rw[yr]at m;have e:(Ex.E (-y) (k+1)*Ex.E y (k+1)-1)*i=Ex.E (-y) (k+1)-i:=by
  have:(Ex.E (-y) (k+1)*Ex.E y (k+1)-1)*i=Ex.E (-y) (k+1)*(Ex.E y (k+1)*i)-i:=by grind
  rw[this,iv,yr]
 rw[e]at m;exact m
theorem E_cut {y:Rat} (h:0<=y) {M:Nat} : ∀k,Ex.Bdd (Ex.E (-y) (M+k)-Ex.E (-y) M) (Ex.E y (M+k)-Ex.E y M)
 |0=>by rw[yJ,Rat.sub_self,Rat.sub_self];exact⟨by decide +kernel,by decide +kernel⟩
 |k+1=>by
  have ih:=E_cut h (M:=M) k;have t:=Ex.Bdd_add ih (tm_negB h (M+k));have e1:Ex.E (-y) (M+(k+1))-Ex.E (-y) M=Ex.E (-y) (M+k)-Ex.E (-y) M+Ex.tm (-y) (M+k):=by
   show Ex.E (-y) (M+k)+Ex.tm (-y) (M+k)-_=_;grind
  have e2:Ex.E y (M+(k+1))-Ex.E y M=Ex.E y (M+k)-Ex.E y M+Ex.tm y (M+k):=by
   show Ex.E y (M+k)+Ex.tm y (M+k)-_=_;grind
  rw[e1,e2];exact t
theorem E_near {y e:Rat} (h:0<=y) (h1:y+y<=1) (he:0<e) (M:Nat) : ∃s,∀L,s<=L->Ex.Bdd (Ex.E (-y) M-1/Ex.E y L) (2*Ex.tm y M+e):=by
 obtain⟨N,hN⟩:=Ex.tm_small (show 0<=y+y by grind) he;refine⟨N+M+1,fun L hL => ?_⟩;obtain⟨n1,n2⟩:=hN L (by omega);have a:=E_inv h (show 1<=L by omega) n1;obtain⟨k,rfl⟩ : ∃k,L=M+k:=⟨L-M,by omega⟩
 have b:=E_cut h (M:=M) k;have c1:((1:Nat):Rat)<=((M+1:Nat):Rat):=Ex.castle (by omega);have c:=Ex.E_tail_le (L:=M+k) h (N:=M) (xO h1 c1);obtain⟨a1,a2⟩:=a;obtain⟨b1,b2⟩:=b;constructor<;>grind
def EncZ (w:Nat) (a b:Int) (q:Rat):Prop:=(a:Rat)<=q*p2 w/\q*p2 w<=(b:Rat)
def nRow (w Y1 Y2:Nat):Nat->Nat->Nat->Nat->Int->Int->Option (Int×Int)
 |0,_,_,_,_,_=>none
 |f+1,i,t1,t2,s1,s2=>
  if cdv (cdv (t2*Y2) (2^w)) i<=2 then some ((if i%2=1 then s1-(cdv (cdv (t2*Y2) (2^w)) i:Nat) else s1+(t1*Y1/2^w/i:Nat))-4,(if i%2=1 then s2-(t1*Y1/2^w/i:Nat) else s2+(cdv (cdv (t2*Y2) (2^w)) i:Nat))+4)
  else nRow w Y1 Y2 f (i+1) (t1*Y1/2^w/i) (cdv (cdv (t2*Y2) (2^w)) i) (if i%2=1 then s1-(cdv (cdv (t2*Y2) (2^w)) i:Nat) else s1+(t1*Y1/2^w/i:Nat)) (if i%2=1 then s2-(t1*Y1/2^w/i:Nat) else s2+(cdv (cdv (t2*Y2) (2^w)) i:Nat))
def nInv (w i t1 t2:Nat) (s1 s2:Int):Prop:=1<=i/\t1<=t2/\t2<=2^w/\s1<=s2/\(2^w:Nat)+(t2:Int)<=2*s1+4*(i:Int)/\2*s2+(t2:Int)<=3*(2^w:Nat)+4*(i:Int)
theorem nInv_0 (w:Nat):nInv w 1 (2^w) (2^w) (2^w:Nat) (2^w:Nat):=by
 refine⟨by omega,by omega,by omega,by omega,by omega,by omega⟩
theorem nStep_le {w Y2 i t2:Nat} (hY:4*Y2<=2^w) (hi:1<=i):4*cdv (cdv (t2*Y2) (2^w)) i<=t2+3:=by
 have P:0<2^w:=xM (by omega);have a:=cdv_self (cdv (t2*Y2) (2^w)) hi;have b:cdv (t2*Y2) (2^w)<=(t2+3)/4:=by
  refine cdv_le P ?_;have m:=xF t2 hY;have h:t2<=(t2+3)/4*4:=by omega
  have m2:=xB (2^w) h;have e1:t2*(4*Y2)=4*(t2*Y2):=by rw[yn]
  have e2:(t2+3)/4*4*2^w=4*((t2+3)/4*2^w):=by rw[xV _ 4,xP]
  rw[e1]at m;rw[e2]at m2;omega
 omega
theorem nInv_step {w Y1 Y2 i t1 t2:Nat} {s1 s2:Int} (hY:4*Y2<=2^w) (h12:Y1<=Y2) (h:nInv w i t1 t2 s1 s2) :
  nInv w (i+1) (t1*Y1/2^w/i) (cdv (cdv (t2*Y2) (2^w)) i) (if i%2=1 then s1-(cdv (cdv (t2*Y2) (2^w)) i:Nat) else s1+(t1*Y1/2^w/i:Nat)) (if i%2=1 then s2-(t1*Y1/2^w/i:Nat) else s2+(cdv (cdv (t2*Y2) (2^w)) i:Nat)):=by
 obtain⟨h1,h2,h3,h4,h5,h6⟩:=h;have P:0<2^w:=xM (by omega);have st:=nStep_le (t2:=t2) hY h1;have u12:t1*Y1/2^w/i<=cdv (cdv (t2*Y2) (2^w)) i:=div_le_cdv h1 (div_le_cdv P (xJ h2 h12));generalize t1*Y1/2^w/i=u1 at *
 generalize cdv (cdv (t2*Y2) (2^w)) i=u2 at *
 unfold nInv;generalize 2^w=T at *
 by_cases g:i%2=1
 ·rw[if_pos g,if_pos g];refine⟨by omega,u12,by omega,by omega,by omega,by omega⟩
 ·rw[if_neg g,if_neg g];refine⟨by omega,u12,by omega,by omega,by omega,by omega⟩
theorem nRow_end {w Y1 Y2:Nat} (hY:4*Y2<=2^w) (h12:Y1<=Y2) : ∀ (m f i t1 t2:Nat) (s1 s2:Int),nInv w i t1 t2 s1 s2->t2<=4^m+1->m+2<=f -> ∃A B,nRow w Y1 Y2 f i t1 t2 s1 s2=some (A,B)/\A<=B/\(2^w:Nat)<=2*A+4*(i+m+4:Nat)/\2*B<=3*(2^w:Nat)+4*(i+m+5:Nat):=by
 intro m;induction m with
 |zero=>
  intro f i t1 t2 s1 s2 h ht hf;obtain⟨f,rfl⟩ : ∃j,f=j+1:=⟨f-1,by omega⟩
  have st:=nStep_le (t2:=t2) hY h.1;have iv:=nInv_step hY h12 h;have:4^0=1:=rfl;rw[nRow,if_pos (by omega)];obtain⟨-,-,-,q4,q5,q6⟩:=iv;refine⟨_,_,rfl,by omega,by omega,by omega⟩
 |succ m ih=>
  intro f i t1 t2 s1 s2 h ht hf;obtain⟨f,rfl⟩ : ∃j,f=j+1:=⟨f-1,by omega⟩
  have st:=nStep_le (t2:=t2) hY h.1;have iv:=nInv_step hY h12 h;have e4:4^(m+1)=4^m*4:=xW _ _;rw[nRow];by_cases g:cdv (cdv (t2*Y2) (2^w)) i<=2
  ·rw[if_pos g];obtain⟨-,-,-,q4,q5,q6⟩:=iv;refine⟨_,_,rfl,by omega,by omega,by omega⟩
  ·rw[if_neg g];obtain⟨A,B,r1,r2,r3,r4⟩:=ih f (i+1) _ _ _ _ iv (by omega) (by omega);exact⟨A,B,r1,r2,by omega,by omega⟩
theorem castZ (a b:Int):((a+b:Int):Rat)=(a:Rat)+(b:Rat):=Rat.intCast_add a b
theorem castZs (a b:Int):((a-b:Int):Rat)=(a:Rat)-(b:Rat):=Rat.intCast_sub a b
theorem castZn (n:Nat):(((n:Nat):Int):Rat)=(n:Rat):=rfl
theorem nRow_enc {w Y1 Y2:Nat} {y:Rat} (hy:Enc w Y1 Y2 y) (hy1:(y+y)+(y+y)<=1) : ∀ (f i t1 t2:Nat) (s1 s2 A B:Int),nRow w Y1 Y2 f (i+1) t1 t2 s1 s2=some (A,B)->Enc w t1 t2 (Ex.tm y i)->EncZ w s1 s2 (Ex.E (-y) (i+1)) -> ∃s,∀L,s<=L->EncZ w A B (1/Ex.E y L):=by
 have y0:=enc_nonneg hy;have P:=p2_pos w;intro f;induction f with
 |zero=>intro i t1 t2 s1 s2 A B h;cases h
 |succ f ih=>
  intro i t1 t2 s1 s2 A B h ht hs;have e1:=enc_byN (n:=1) (m:=i+1) (by omega) (enc_prodN ht hy);have e2:Ex.tm y i*y*((1:Nat):Rat)/((i+1:Nat):Rat)=Ex.tm y (i+1):=by
   have:((1:Nat):Rat)=1:=rfl;rw[this,yr];rfl
  rw[e2,xu,xu]at e1;have e3:EncZ w (if (i+1)%2=1 then s1-(cdv (cdv (t2*Y2) (2^w)) (i+1):Nat) else s1+(t1*Y1/2^w/(i+1):Nat)) (if (i+1)%2=1 then s2-(t1*Y1/2^w/(i+1):Nat) else s2+(cdv (cdv (t2*Y2) (2^w)) (i+1):Nat)) (Ex.E (-y) (i+1+1)):=by
   show EncZ w _ _ (Ex.E (-y) (i+1)+Ex.tm (-y) (i+1));rw[tm_neg];obtain⟨k1,k2⟩:=hs;obtain⟨k3,k4⟩:=e1;by_cases g:(i+1)%2=1
   ·rw[if_pos g,if_pos g,if_pos g];unfold EncZ;rw[castZs,castZs,castZn,castZn];constructor<;>grind
   ·rw[if_neg g,if_neg g,if_neg g];unfold EncZ;rw[castZ,castZ,castZn,castZn];constructor<;>grind
  rw[nRow]at h;generalize (if (i+1)%2=1 then s1-(cdv (cdv (t2*Y2) (2^w)) (i+1):Nat) else s1+(t1*Y1/2^w/(i+1):Nat))=z1 at *
  generalize (if (i+1)%2=1 then s2-(t1*Y1/2^w/(i+1):Nat) else s2+(cdv (cdv (t2*Y2) (2^w)) (i+1):Nat))=z2 at *
  by_cases g:cdv (cdv (t2*Y2) (2^w)) (i+1)<=2
  ·rw[if_pos g]at h;simp only[Option.some.injEq,Prod.mk.injEq]at h;obtain⟨rfl,rfl⟩:=h;obtain⟨e,he,hep⟩ : ∃e:Rat,0<e/\e*p2 w=1:=⟨1/p2 w,by rw[xv,yK];exact wi.2 P,yD (by grind)⟩
   obtain⟨s,hs⟩:=E_near y0 (show y+y<=1 by grind) he (i+1+1);refine⟨s,fun L hL => ?_⟩;obtain⟨n1,n2⟩:=hs L hL;have u2:((cdv (cdv (t2*Y2) (2^w)) (i+1):Nat):Rat)<=2:=Ex.castle g;have tn:=Ex.tm_nn y0 (i+1);have ts:=Ex.tm_succ y (i+1);have tn2:=Ex.tm_nn y0 (i+1+1);have half:2*Ex.tm y (i+1+1)<=Ex.tm y (i+1):=by
    have c1:((2:Nat):Rat)<=((i+1+1:Nat):Rat):=Ex.castle (by omega);have m1:=xA c1 tn2;have m2:=xA (show y<=1 by grind) tn;rw[ts,show ((2:Nat):Rat)=2 from rfl]at m1;grind
   have b:=xA half (xX P);have b2:=xO e1.2 u2;obtain⟨k1,k2⟩:=e3;have m1:=xA n1 (xX P);have m2:=xA n2 (xX P);unfold EncZ;rw[castZ,castZs,show ((4:Int):Rat)=4 from rfl];generalize 1/Ex.E y L=v at *
   generalize Ex.tm y (i+1+1)=a at *
   generalize Ex.tm y (i+1)=a' at *
   generalize Ex.E (-y) (i+1+1)=c at *
   clear e1 e2 hs ih ts tn tn2 half n1 n2 hy hy1;constructor<;>grind
  ·rw[if_neg g]at h;exact ih (i+1) _ _ _ _ A B h e1 e3
def sqn (w:Nat):Nat->Nat->Nat->Nat×Nat
 |0,a,b=>(a,b)
 |k+1,a,b=>sqn w k (a*a/2^w) (cdv (b*b) (2^w))
theorem sqn_enc {w:Nat} : ∀ (k lo hi:Nat) (q:Rat),Enc w lo hi q->Enc w (sqn w k lo hi).1 (sqn w k lo hi).2 (q^2^k)
 |0,lo,hi,q,h=>by
  rw[yk,yp,yx,yK];exact h
 |k+1,lo,hi,q,h=>by
  have ih:=sqn_enc k _ _ (q*q) (enc_prodN h h);have e:q^2^(k+1)=(q*q)^2^k:=by
   rw[xW,Nat.mul_two,Ex.pow_plus,Ex.mul_powR]
  rw[e];exact ih
theorem sqn_step {w lo hi c:Nat} (h1:lo<=hi) (h2:hi<=2^(w+c)):lo*lo/2^w<=cdv (hi*hi) (2^w)/\cdv (hi*hi) (2^w)<=2^(w+(c+c)):=
 ⟨div_le_cdv (xM (by omega)) (xJ h1 h1),by have:=prod_le (w:=w) h2 h2;rw[show w+c+c=w+(c+c) by omega]at this;exact this⟩
theorem inv_pow {q:Rat} (h:q≠0) : ∀n:Nat,(1/q)^n=1/q^n
 |0=>by rw[yx,yx];decide +kernel
 |n+1=>by
  rw[yp,yp,inv_pow h n,xv,xv,xv,Rat.inv_mul_rev];grind
theorem inv_far {y x:Rat} {w j s1 A B:Nat} (hj:0<j) (h0:0<=y) (hx:(j:Rat)*y=x) (h : ∀L,s1<=L->Enc w A B ((1/Ex.E y L)^j)) : ∃s,∀L,s<=L->Enc w A B (1/Ex.E x L):=by
 refine⟨j*(s1+1)+1,fun L hL => ?_⟩;have k1:s1+1<=j*(s1+1):=zL _ hj;have PR:=p2_pos w;have u1:=Ex.E_pow_le h0 (s1+1) j;have u2:=Ex.E_pow_ge h0 (show 0<L by omega) j;rw[hx]at u1 u2;have x0:0<=x:=by rw[<- hx];exact xL (Ex.nat_nn j) h0
 have m:=Ex.E_mono x0 hL;have a1:=(h (s1+1) (by omega)).2;have a2:=(h L (by omega)).1;have o1:=E_one h0 (show 1<=s1+1 by omega);have o2:=E_one h0 (show 1<=L by omega);have o3:=E_one x0 (show 1<=L by omega);rw[inv_pow (by grind)]at a1 a2;have anti : ∀p q:Rat,0<p->p<=q->1/q<=1/p:=by
  intro p q hp hpq;have i1:p*(1/p)=1:=Ex.mul_div _ 1 (by grind);have i2:q*(1/q)=1:=Ex.mul_div _ 1 (by grind);have n1:0<=1/p:=Ex.div_nn (by decide) hp;have n2:0<=1/q:=Ex.div_nn (by decide) (by grind);have m1:=xA hpq (xL n1 n2);have e1:p*(1/p*(1/q))=1/q:=by rw[<- wP,i1,yK]
  have e2:q*(1/p*(1/q))=1/p:=by rw[wM (1/p),<- wP,i2,yK]
  rw[e1,e2]at m1;exact m1
 have pw:(1:Rat)<=Ex.E y (s1+1)^j:=by
  have:=pow_mono (a:=1) (by decide) o1 j;have e : ∀n:Nat,(1:Rat)^n=1:=by
   intro n;induction n with
   |zero=>rfl
   |succ n ih=>rw[yp,ih,yK]
  rw[e]at this;exact this
 refine⟨xO a2 (xA (anti _ _ (by grind) u2) (xX PR)),xO (xA (anti _ _ (by grind) (xO u1 m)) (xX PR)) a1⟩
end Go.Proofs.YtfknkoeagjonbaaGreat
namespace Go.Proofs.YtfknkoeagjonbaaGreat
open Go.Ev
def tk (y:Rat) (k0:Nat):Nat->Rat
 |0=>1
 |j+1=>tk y k0 j*y*((1:Nat):Rat)/((k0+2*j:Nat):Rat)
def sk (y:Rat) (k0:Nat):Nat->Rat
 |0=>0
 |j+1=>sk y k0 j+tk y k0 j
section
variable {y:Rat} {k0:Nat}
theorem tk_step (hk:1<=k0) (j:Nat):((k0+2*j:Nat):Rat)*tk y k0 (j+1)=tk y k0 j*y:=by
 have c:(0:Rat)<((k0+2*j:Nat):Rat):=Ex.castlt (a:=0) (by omega);show _*(tk y k0 j*y*((1:Nat):Rat)/_)=_;rw[Ex.mul_div _ _ (by grind),show ((1:Nat):Rat)=1 from rfl,yr]
theorem tk_nn (hk:1<=k0) (h:0<=y) : ∀j,0<=tk y k0 j
 |0=>by show (0:Rat)<=1;decide
 |j+1=>by
  have ih:=tk_nn hk h j;exact Ex.div_nn (xL (xL ih h) (Ex.nat_nn 1)) (Ex.castlt (a:=0) (by omega))
theorem tk_half (hk:1<=k0) (h:0<=y) {j:Nat} (g:y+y<=((k0+2*j:Nat):Rat)):tk y k0 (j+1)+tk y k0 (j+1)<=tk y k0 j:=by
 have c:(0:Rat)<((k0+2*j:Nat):Rat):=Ex.castlt (a:=0) (by omega);have e:=tk_step (y:=y) hk j;have n:=tk_nn hk h j;refine le_by c ?_;have m:=xI g n;have e2:(tk y k0 (j+1)+tk y k0 (j+1))*((k0+2*j:Nat):Rat)=((k0+2*j:Nat):Rat)*tk y k0 (j+1)+((k0+2*j:Nat):Rat)*tk y k0 (j+1):=by grind
 rw[e2,e];grind
theorem sk_rest (hk:1<=k0) (h:0<=y) {i:Nat} (g:y+y<=((k0+2*i:Nat):Rat)) : ∀m,sk y k0 (i+1+m)+tk y k0 (i+m)<=sk y k0 (i+1)+tk y k0 i
 |0=>xi
 |m+1=>by
  have ih:=sk_rest hk h g m;have hf:=tk_half (j:=i+m) hk h (xO g (Ex.castle (by omega)));show sk y k0 (i+1+m)+tk y k0 (i+1+m)+tk y k0 (i+(m+1))<=_;rw[show i+1+m=i+m+1 by omega]at *
  rw[show i+(m+1)=i+m+1 by omega];grind
theorem sk_up (hk:1<=k0) (h:0<=y) {i L:Nat} (g:i<=L):sk y k0 i<=sk y k0 L:=by
 obtain⟨m,rfl⟩:=wX g;clear g;induction m with
 |zero=>exact xi
 |succ m ih=>
  have:=tk_nn hk h (i+m);show _<=sk y k0 (i+m)+tk y k0 (i+m);grind
theorem sk_top (hk:1<=k0) (h:0<=y) {i L:Nat} (g:y+y<=((k0+2*i:Nat):Rat)):sk y k0 L<=sk y k0 (i+1)+tk y k0 i:=by
 have n:=tk_nn hk h i;rcases Nat.le_total L (i+1) with e|e
 ·have:=sk_up hk h e;grind
 ·obtain⟨m,rfl⟩:=wX e;have:=sk_rest hk h g m;have:=tk_nn hk h (i+m);grind
theorem tk_big (hk:1<=k0) (h:0<=y) {c:Nat} (hc:(c:Rat)<=y) (hc2:y<((c+1:Nat):Rat)) : ∀j,((k0+2*j:Nat):Rat)<y+y->1<=tk y k0 j*p2 ((k0+2*j+1-c)/2)
 |0,g=>by
  show 1<=1*p2 _;rw[yK];have:1<=2^((k0+2*0+1-c)/2):=xM (by omega);exact Ex.castle this
 |j+1,g=>by
  have g0:((k0+2*j:Nat):Rat)<y+y:=by
   have:((k0+2*j:Nat):Rat)<=((k0+2*(j+1):Nat):Rat):=Ex.castle (by omega);grind
  have ih:=tk_big hk h hc hc2 j g0;have K:(0:Rat)<((k0+2*j:Nat):Rat):=Ex.castlt (a:=0) (by omega);have e:=tk_step (y:=y) hk j;have n:=tk_nn hk h j;have n1:=tk_nn hk h (j+1);by_cases b:k0+2*j<=c
  ·have b':((k0+2*j:Nat):Rat)<=y:=xO (Ex.castle b) hc;have up:tk y k0 j<=tk y k0 (j+1):=by
    refine le_by K ?_;rw[wM (tk y k0 (j+1)),e];exact xI b' n
   have p:p2 ((k0+2*j+1-c)/2)<=p2 ((k0+2*(j+1)+1-c)/2):=Ex.castle (xE (by omega) (by omega));exact xO ih (mul_le up p n1 (xX (p2_pos _)))
  ·have up:tk y k0 j<=2*tk y k0 (j+1):=by
    refine le_by K ?_;have e2:2*tk y k0 (j+1)*((k0+2*j:Nat):Rat)=2*(tk y k0 j*y):=by rw[<- e];grind
    rw[e2];have:=xI (xX g0) n;grind
   have p:p2 ((k0+2*(j+1)+1-c)/2)=2*p2 ((k0+2*j+1-c)/2):=by
    rw[show (k0+2*(j+1)+1-c)/2=(k0+2*j+1-c)/2+1 by omega];show ((2^(_+1):Nat):Rat)=_;rw[xW,Ex.castmul,wM];rfl
   rw[p];have m:=xA up (xX (p2_pos ((k0+2*j+1-c)/2)));grind
end
theorem le_128 {x:Rat} (h:x<=64):x*2<=128:=by grind
theorem tk_late {y:Rat} {k0 w j:Nat} (hk:1<=k0) (hk2:k0<=300) (h:0<=y) (h128:y<=128) (hw:80<=w) (g:tk y k0 j*p2 w<4):y+y<=((k0+2*j:Nat):Rat):=by
 refine zf.1 fun b => ?_
 obtain⟨c,hc,hc2⟩ : ∃c:Nat,(c:Rat)<=y/\y<((c+1:Nat):Rat):=by
  refine⟨y.floor.toNat,?_,?_⟩
  ·have f0:0<=y.floor:=Rat.le_floor_iff.2 h;have:((y.floor.toNat:Nat):Rat)=((y.floor:Int):Rat):=by
    rw[<- castZn,Int.toNat_of_nonneg f0]
   rw[this];exact Rat.floor_le y
  ·have f0:0<=y.floor:=Rat.le_floor_iff.2 h;have:((y.floor.toNat+1:Nat):Rat)=((y.floor:Int):Rat)+1:=by
    rw[Ex.castadd,<- castZn,Int.toNat_of_nonneg f0];rfl
   rw[this,show ((y.floor:Int):Rat)+1=((y.floor+1:Int):Rat) by rw[castZ];rfl];exact Rat.lt_floor_add_one y
 have big:=tk_big hk h hc hc2 j b;have kc:k0+2*j<2*(c+1):=by
  have:((k0+2*j:Nat):Rat)<((2*(c+1):Nat):Rat):=by
   rw[Ex.castmul,show ((2:Nat):Rat)=2 from rfl];grind
  exact_mod_cast this
 have c128:c<=128:=by
  have:(c:Rat)<=((128:Nat):Rat):=xO hc h128;exact_mod_cast this
 have n:=tk_nn hk h j;have e:p2 w=4*(p2 (w-2-(k0+2*j+1-c)/2)*p2 ((k0+2*j+1-c)/2)):=by
  rw[<- p2_plus];have:2^w=4*2^(w-2-(k0+2*j+1-c)/2+(k0+2*j+1-c)/2):=by
   rw[show (4:Nat)=2^2 from rfl,<- xN];congr 1;omega
  show ((2^w:Nat):Rat)=4*((2^(_+_):Nat):Rat)
  rw[this,Ex.castmul];rfl
 have one:(1:Rat)<=p2 (w-2-(k0+2*j+1-c)/2):=Ex.castle (show 1<=2^_ from xM (by omega));have m:=mul_le one big (xX (p2_pos _)) (by decide);rw[e]at g;grind
theorem tRow_enc {w Y1 Y2 M k0:Nat} {y c:Rat} (hk0:1<=k0) (hy:Enc w Y1 Y2 y) (hc:0<=c) (late : ∀i,M<=k0+2*i->c*tk y k0 i*p2 w<4->y+y<=((k0+2*i:Nat):Rat)) :
  ∀ (f i t1 t2 a1 a2 A B:Nat),tRow w Y1 Y2 M f (k0+2*i) t1 t2 a1 a2=some (A,B)->Enc w t1 t2 (c*tk y k0 i)->Enc w a1 a2 (c*sk y k0 (i+1)) -> ∃s,∀L,s<=L->Enc w A B (c*sk y k0 L):=by
 have y0:=enc_nonneg hy;have P:=p2_pos w;intro f;induction f with
 |zero=>intro i t1 t2 a1 a2 A B h;cases h
 |succ f ih=>
  intro i t1 t2 a1 a2 A B h ht ha;rw[tRow]at h;by_cases g:M<=k0+2*i/\t2<4
  ·rw[if_pos g]at h;simp only[Option.some.injEq,Prod.mk.injEq]at h;obtain⟨rfl,rfl⟩:=h;have t3:(t2:Rat)<=3:=Ex.castle (b:=3) (by omega);have lt:=late i g.1 (by have:=ht.2;grind);refine⟨i+1,fun L hL => ?_⟩;have up:=sk_up hk0 y0 hL;have top:=sk_top (L:=L) hk0 y0 lt;have m1:=xA (xI up hc) (xX P);have m2:=xA (xI top hc) (xX P);refine⟨xO ha.1 m1,xO m2 ?_⟩;rw[Ex.castadd,show ((8:Nat):Rat)=8 from rfl,Rat.mul_add,Rat.add_mul];have a:=ha.2;have b:=ht.2;generalize c*sk y k0 (i+1)*p2 w=u at *
   generalize c*tk y k0 i*p2 w=v at *
   clear late ih m1 m2 up top lt;grind
  ·rw[if_neg g]at h;have e1:=enc_times (n:=1) (d:=k0+2*i) (by omega) (enc_mul ht hy);have e2:c*tk y k0 i*y*((1:Nat):Rat)/((k0+2*i:Nat):Rat)=c*tk y k0 (i+1):=by
    show _=c*(tk y k0 i*y*((1:Nat):Rat)/((k0+2*i:Nat):Rat))
    rw[xv,xv];grind
   rw[e2]at e1;have e3:=enc_add ha e1;rw[<- Rat.mul_add]at e3;exact ih (i+1) _ _ _ _ A B h e1 e3
def wRow (W D:Nat):Nat->Nat->Nat->Nat->Nat->Nat->Nat×Nat
 |0,_,_,_,s,e=>(s,e)
 |f+1,k,t,d,s,e=>pin (k+2) fun k'=>pin (t*W/k+2) fun t'=>pin ((d*W+t*D)/k+8) fun d'=>pin (s+t') fun s'=>pin (e+d') fun e'=>wRow W D f k' t' d' s' e'
theorem wRow_succ (W D f k t d s e:Nat):wRow W D (f+1) k t d s e=wRow W D f (k+2) (t*W/k+2) ((d*W+t*D)/k+8) (s+(t*W/k+2)) (e+((d*W+t*D)/k+8)):=by
 rw[wRow,pin_eq,pin_eq,pin_eq,pin_eq,pin_eq]
theorem wRow_up (W D:Nat) : ∀ (f k t d s e:Nat),s<=(wRow W D f k t d s e).1/\e<=(wRow W D f k t d s e).2
 |0,_,_,_,s,e=>⟨xU _,xU _⟩
 |f+1,k,t,d,s,e=>by
  have h:=wRow_up W D f (k+2) (t*W/k+2) ((d*W+t*D)/k+8) (s+(t*W/k+2)) (e+((d*W+t*D)/k+8));rw[wRow_succ];exact⟨xG (wZ _ _) h.1,xG (wZ _ _) h.2⟩
theorem wRow_step {w Y1 Y2 W D k t1 t2 t d:Nat} (hk:1<=k) (hY:Y2<=W*2^w) (hY1:Y1<=Y2) (hD:Y2<=Y1+D) (h12:t1<=t2) (ht:t2<=t*2^w) (hd:t2<=t1+d) :
  (t2*Y2/2^w+1)*1/k+1<=(t*W/k+2)*2^w/\(t2*Y2/2^w+1)*1/k+1<=t1*Y1/2^w*1/k+((d*W+t*D)/k+8):=by
 have P:0<2^w:=xM (by omega);rw[xu,xu];have a:t2*Y2/2^w<=t2*W:=by
  refine(yR P).2 ?_;have m:=xF t2 hY;rw[<- xP]at m;omega
 have gap:t2*Y2/2^w<=t1*Y1/2^w+(d*W+t*D)+1:=by
  have h1:t2*Y2<=t1*Y1+(d*W+t*D)*2^w:=by
   have m1:t2*Y2<=(t1+d)*Y2:=xB _ hd;have m2:t1*Y2<=t1*(Y1+D):=xF _ hD;have m3:d*Y2<=d*(W*2^w):=xF _ hY;have m4:t1*D<=t*2^w*D:=xB _ (xG h12 ht);have e1:(d*W+t*D)*2^w=d*(W*2^w)+t*2^w*D:=by rw[xY];rw[xP d,wL t D]
   rw[xY]at m1;rw[xZ]at m2;omega
  have h2:=xg (c:=2^w) h1;rw[Nat.add_mul_div_right _ _ P]at h2;omega
 constructor
 ·have b:(t2*Y2/2^w+1)/k<=t*W/k*2^w+2^w:=by
   refine(yR hk).2 ?_;have m:=xB W ht;have q:=Nat.lt_mul_div_succ (t*W) hk;have m2:=xB (2^w) (show t*W+1<=k*(t*W/k+1) by omega);have e1:t*2^w*W=t*W*2^w:=by rw[xP,xV (2^w),<- xP]
   have e2:(t*W/k*2^w+2^w)*k=k*(t*W/k+1)*2^w:=by
    generalize t*W/k=z;generalize 2^w=p;grind
   rw[xY,xe]at m2;omega
  have e:(t*W/k+2)*2^w=t*W/k*2^w+2^w+2^w:=by rw[xY];omega
  omega
 ·generalize t2*Y2/2^w=q2 at *
  generalize t1*Y1/2^w=q1 at *
  generalize d*W+t*D=g at *
  have h3:(q2+1)/k<=(q1+g+2)/k:=xg (by omega);have h4:(q1+g+2)/k<=q1/k+g/k+4:=by
   refine(yR hk).2 ?_;have a1:=Nat.lt_mul_div_succ q1 hk;have a2:=Nat.lt_mul_div_succ g hk;have e:(q1/k+g/k+4)*k=k*(q1/k+1)+k*(g/k+1)+2*k:=by
    generalize q1/k=z1;generalize g/k=z2;grind
   omega
  omega
theorem tRow_wide {w Y1 Y2 M W D:Nat} (hY:Y2<=W*2^w) (hY1:Y1<=Y2) (hD:Y2<=Y1+D) : ∀ (f F k t1 t2 a1 a2 t d s e A B:Nat),f<=F->1<=k->tRow w Y1 Y2 M f k t1 t2 a1 a2=some (A,B)->t1<=t2->t2<=t*2^w->t2<=t1+d->a2<=s*2^w->a2<=a1+e->a1<=a2 ->
  A<=B/\B<=(wRow W D F k t d s e).1*2^w+8/\B<=A+(wRow W D F k t d s e).2+8:=by
 intro f;induction f with
 |zero=>intro F k t1 t2 a1 a2 t d s e A B _ _ h;cases h
 |succ f ih=>
  intro F k t1 t2 a1 a2 t d s e A B hF hk h h12 ht hd hs he ha;obtain⟨F,rfl⟩ : ∃G,F=G+1:=⟨F-1,by omega⟩
  rw[tRow]at h;by_cases g:M<=k/\t2<4
  ·rw[if_pos g]at h;simp only[Option.some.injEq,Prod.mk.injEq]at h;obtain⟨rfl,rfl⟩:=h;obtain⟨u1,u2⟩:=wRow_up W D (F+1) k t d s e;have m:=xB (2^w) u1;exact⟨by omega,by omega,by omega⟩
  ·rw[if_neg g]at h;obtain⟨s1,s2⟩:=wRow_step hk hY hY1 hD h12 ht hd;have q0:t1*Y1/2^w*1/k<=(t2*Y2/2^w+1)*1/k+1:=by
    refine yZ (xg (xB 1 ?_));exact yZ (xg (xJ h12 hY1))
   rw[wRow_succ];have ih':=fun t1 t2 a1 a2 t d s e=>ih F (k+2) t1 t2 a1 a2 t d s e A B (by omega) (by omega)
   clear ih hY hY1 hD ht hd;generalize t1*Y1/2^w*1/k=u1 at *
   generalize (t2*Y2/2^w+1)*1/k+1=u2 at *
   generalize t*W/k+2=t' at *
   generalize (d*W+t*D)/k+8=d' at *
   refine ih' _ _ _ _ t' d' (s+t') (e+d') h q0 s1 s2 ?_ (by omega) (by omega);rw[xY];omega
end Go.Proofs.YtfknkoeagjonbaaGreat
namespace Go.Proofs.YtfknkoeagjonbaaGreat
open Go.Ev
end Go.Proofs.YtfknkoeagjonbaaGreat
namespace Go.Proofs.YtfknkoeagjonbaaGreat
open Go.Ev
end Go.Proofs.YtfknkoeagjonbaaGreat
namespace Go.Proofs.YtfknkoeagjonbaaGreat
open Go.Ev
theorem p2_add (a b:Nat):p2 (a+b)=p2 a*p2 b:=by
 show ((2^(a+b):Nat):Rat)=_;rw[xN];exact_mod_cast rfl
theorem n_mul (a b:Nat):((a*b:Nat):Rat)=(a:Rat)*(b:Rat):=by exact_mod_cast rfl
theorem n_le {a b:Nat} (h:a<=b):(a:Rat)<=(b:Rat):=by exact_mod_cast h
theorem n_nn (a:Nat):(0:Rat)<=(a:Rat):=by exact_mod_cast wT a
def SQ:Rat:=mkRat (rootPi:Int) (2^400)
theorem SQ_mul:SQ*p2 400=(rootPi:Rat):=by
 unfold SQ;rw[Rat.mkRat_eq_div];exact yD (by have:(0:Rat)<p2 400:=p2_pos 400;grind)
theorem SQ_nn:0<=SQ:=le_by (p2_pos 400) (by rw[SQ_mul,yM];exact n_nn _)
theorem sq_split {p:Nat} (hp:p<=800):SQ*SQ*p2 p*p2 (800-p)=((rootPi*rootPi:Nat):Rat):=by
 have h1:p2 p*p2 (800-p)=p2 400*p2 400:=by rw[<- p2_add,<- p2_add];congr 1;omega
 have h2:SQ*SQ*p2 p*p2 (800-p)=SQ*SQ*(p2 p*p2 (800-p)):=by grind
 have h3:SQ*SQ*(p2 400*p2 400)=(SQ*p2 400)*(SQ*p2 400):=by grind
 rw[h2,h1,h3,SQ_mul,n_mul]
theorem sq_lo {a p:Nat} (hp:p<=800) (h:a*2^(800-p)<=rootPi*rootPi):(a:Rat)<=SQ*SQ*p2 p:=by
 refine le_by (p2_pos (800-p)) ?_;rw[sq_split hp];have:=n_le h;rw[n_mul]at this;exact this
theorem sq_hi {a p:Nat} (hp:p<=800) (h:rootPi*rootPi<=a*2^(800-p)):SQ*SQ*p2 p<=(a:Rat):=by
 refine le_by (p2_pos (800-p)) ?_;rw[sq_split hp];have:=n_le h;rw[n_mul a]at this;exact this
theorem sq_ge {a p:Nat} (hp:p<=400) (h:rootPi*rootPi<=(a+1)*2^(800-p)):2^p<=a:=by
 have h1:2*2^800<=rootPi*rootPi:=by decide +kernel
 have h2:2^800=2^p*2^(800-p):=by rw[<- xN];congr 1;omega
 have h3:0<2^(800-p):=xM (by omega);have h4:2*2^p*2^(800-p)<=(a+1)*2^(800-p):=by rw[xP,<- h2];exact xG h1 h
 have h5:=yw h4 h3;have h6:0<2^p:=xM (by omega);omega
theorem sq_mono {x y:Rat} (hx:0<=x) (hy:0<=y) (h:x*x<=y*y):x<=y:=by
 rcases zV (a:=x) (b:=y) with g|g
 ·exact g
 ·by_cases e:y=x
  ·rw[e];exact xi
  ·have h1:y<x:=by grind
   have h2:y*y<=x*y:=xA g hy;have h3:x*y<x*x:=by
    have:0<x*(x-y):=ya (by grind) (by grind);grind
   grind
theorem root_width {lo lo' hi' hi A B P:Rat} (hP:0<P) (a2:lo<=lo') (a4:A<=lo'*lo') (a5:(lo'-lo)*P<=1) (h0:0<=lo) (b1:0<=hi') (b3:hi'*hi'<=B) (b5:(hi-hi')*P<=1) (hA:1<=A) (hAB:(B-A)*P<=1) (hAB0:A<=B):(hi-lo)*P<=3:=by
 have l0:0<=lo':=xO h0 a2;have l1:1<=lo':=sq_mono (by decide) l0 (by rw[yr];exact xO hA a4);have key:hi'-lo'<=B-A:=by
  rcases zV (a:=hi') (b:=lo') with g|g
  ·grind
  ·have h1:(hi'-lo')*1<=(hi'-lo')*(hi'+lo'):=xI (by grind) (by grind);have h2:(hi'-lo')*(hi'+lo')=hi'*hi'-lo'*lo':=by grind
   grind
 have k2:=xA key (show 0<=P by grind);have e:(hi-lo)*P=(hi-hi')*P+(hi'-lo')*P+(lo'-lo)*P:=by grind
 grind
end Go.Proofs.YtfknkoeagjonbaaGreat
namespace Go.Proofs.YtfknkoeagjonbaaGreat
open Go.Ev
theorem pi256:piOk 256=true:=by kernel_rfl
theorem pi328:piOk 328=true:=by kernel_rfl
theorem arcs_PiX {p:Nat} (h1:8<=p) (h2:p<233\/p=256\/p=328) : ∃a:Nat,Go.Ev.Fn CX 240 [.int .i64 (p:Int)] (ballR (mkRat (a:Int) (2^p)) (mkRat ((a+1:Nat):Int) (2^p)))/\a*2^(800-p)<=rootPi*rootPi/\rootPi*rootPi<=(a+1)*2^(800-p):=by
 have h:piOk p=true:=by
  rcases h2 with h2|rfl|rfl
  ·exact allFrom_at pi_ok p h1 (by omega)
  ·exact pi256
  ·exact pi328
 unfold piOk at h;split at h
 ·rename_i lo hi hpi;rw[pin_eq,xj,xj]at h;obtain⟨k1,k2,k3⟩:=h;have k1:=Nat.eq_of_beq_eq_true k1;have k2:=yC k2;have k3:=yC k3;obtain⟨f,g1,g2⟩:=arcs_pi (by omega) (by omega) hpi;have c:=fix_Certain1 (p:=p) (sp:=64) f (by omega) (by omega) (by omega) (by omega) (by omega) k1;refine⟨lo/2^64,?_,k2,k3⟩;have hh:=arcs_held (p:Int);rw[if_neg (by omega),if_neg (by omega)]at hh;generalize mkRat ((lo/2^64:Nat):Int) (2^p)=q1 at *
  generalize mkRat ((lo/2^64+1:Nat):Int) (2^p)=q2 at *
  clear k2 k3 f hpi;refine fni Tryz.f240 ?_;unfold Tryz.f240;repeat (first|simp only[go_sem]|simp (disch:=first|exact omg|fail) only[AX]|refine wki ?_|refine vfa ?_)
 ·cases h
end Go.Proofs.YtfknkoeagjonbaaGreat
namespace Go.Proofs.YtfknkoeagjonbaaGreat
open Go.Ev
theorem mk_p2 (a p:Nat):mkRat (a:Int) (2^p)*p2 p=(a:Rat):=mk_mulP (a:Int) (xM (by omega))
theorem many_pi {d:Nat} (h1:8<=d) (h2:d<233\/d=256\/d=328:=by omega) : ∃m1 m2:Rat,Go.Ev.Fn CX 240 [.int .i64 (d:Int)] (ballR m1 m2)/\m1<=SQ*SQ/\SQ*SQ<=m2/\(m2-m1)*p2 d<=1/\1<=m1/\szR m1 40/\szR m2 40:=by
 obtain⟨a,f,g1,g2⟩:=arcs_PiX h1 h2;have P:=p2_pos d;have e1:=mk_p2 a d;have e2:=mk_p2 (a+1) d;have k1:=sq_lo (by omega) g1;have k2:=sq_hi (a:=a+1) (by omega) g2;have k3:=sq_ge (by omega) g2;have hA:a<=2^(d+4):=by
  have x1:rootPi*rootPi<=2^804:=by decide +kernel
  have x2:2^804=2^(d+4)*2^(800-d):=by rw[<- xN];congr 1;omega
  rw[x2]at x1;exact yw (xG g1 x1) (xM (by omega))
 have hp:2^d<=2^(d+4):=xE (by omega) (by omega);have hB:a+1<=2^(d+5):=by
  have:2^(d+5)=2^(d+4)*2:=by rw[<- xW]
  have:=xM (a:=2) (n:=d+4) (by omega);omega
 have lp:=lim_len_p2 hp;have la:=lim_len_p2 hA;have lb:=lim_len_p2 hB;refine⟨_,_,f,le_by P (by rw[e1];exact k1),le_by P (by rw[e2];exact k2),?_,le_by P (by rw[e1,yK];exact n_le k3),szR_nat la lp,szR_nat lb lp⟩;have e : ∀a b c:Rat,(a-b)*c=a*c-b*c:=by intro a b c;grind
 rw[e,e1,e2];have:((a+1:Nat):Rat)=(a:Rat)+1:=by exact_mod_cast rfl
 rw[this];grind
theorem many_root {m1 m2:Rat} {d:Nat} (hd:d<400) (h1:m1<=SQ*SQ) (h2:SQ*SQ<=m2) (h3:(m2-m1)*p2 d<=1) (h4:1<=m1) (z1:szR m1 40) (z2:szR m2 40) :
  ∃lo hi:Rat,Go.Ev.Fn CX 287 [ballR m1 m2,.int .i64 (d:Int)] (.tup [ballR lo hi,.bool true])/\lo<=SQ/\SQ<=hi/\(hi-lo)*p2 d<=3/\szR lo 80/\szR hi 80:=by
 have h5:m1<=m2:=xO h1 h2;obtain⟨lo,lo',hi',hi,f,g1,g2,g3,g4,g5,k1,k2,k3,k4,k5,y1,y2⟩:=root_Of (L:=40) (p:=d) (A:=m1) (B:=m2) (by grind) (by grind) z1 z2;refine⟨lo,hi,f,sq_mono g1 SQ_nn (xO g3 h1),sq_mono SQ_nn (xO k1 k2) (xO h2 k4),root_width (p2_pos d) g2 g4 g5 g1 k1 k3 k5 h4 h3 h5,y1,y2⟩
section
variable {v:SV} {q:Rat} {roots pI:Int} {P:Nat}
end
end Go.Proofs.YtfknkoeagjonbaaGreat
namespace Go.Proofs.YtfknkoeagjonbaaGreat
open Go.Ev
section
variable {v:SV} {z:Rat} {L P w:Nat} {pI:Int}
theorem unN_mk (m w:Nat):unN (mkRat (m:Int) (2^w)) w=m:=by
 have P:0<2^w:=xM (by omega);obtain⟨q,hq⟩ : ∃q,q=mkRat (m:Int) (2^w):=⟨_,rfl⟩
 have e:=mk_p2 m w;rw[<- hq]at e ⊢;have q0:0<=q:=by
  refine le_by (p2_pos w) ?_;rw[e,yM];exact nat_nonneg m
 have nn:0<=q.num:=zP.2 q0;have d:=Ex.denR q;have k:((q.num.natAbs*2^w:Nat):Rat)=((m*q.den:Nat):Rat):=by
  rw[Ex.castmul,Ex.castmul,<- e];have:((q.num.natAbs:Nat):Rat)=(q.num:Rat):=by
   have h:((q.num.natAbs:Nat):Rat)=((q.num.natAbs:Int):Rat):=rfl;rw[h,wb nn]
  rw[this,<- d];grind
 have k2:=Ex.nat_inj k;show q.num.natAbs*2^w/q.den=m;rw[k2];exact Nat.mul_div_cancel _ q.den_pos
theorem unN_lt {q:Rat} (h0:0<=q) (w:Nat):q*p2 w<((unN q w+1:Nat):Rat):=by
 have d:=Ex.denR q;have dR:(0:Rat)<(q.den:Rat):=by exact_mod_cast q.den_pos
 have nn:0<=q.num:=zP.2 h0;have k:=Nat.lt_mul_div_succ (q.num.natAbs*2^w) q.den_pos;have k2:=Ex.castlt k;rw[Ex.castmul,Ex.castmul]at k2;have e:((q.num.natAbs:Nat):Rat)=(q.num:Rat):=by
  have h:((q.num.natAbs:Nat):Rat)=((q.num.natAbs:Int):Rat):=rfl;rw[h,wb nn]
 rw[e,<- d]at k2;refine Rat.not_le.1 fun hc => ?_
 have m:=xA hc (xX dR);have k3:q*(q.den:Rat)*p2 w<(q.den:Rat)*((unN q w+1:Nat):Rat):=k2;grind
theorem unN_mono {p q:Rat} (h0:0<=p) (h:p<=q) (w:Nat):unN p w<=unN q w:=by
 have a:=(unN_le h0 w).1;have b:=(unN_lt (show 0<=q by grind) w)
 have m:=xA h (xX (p2_pos w));have k:((unN p w:Nat):Rat)<((unN q w+1:Nat):Rat):=by grind
 have k2:unN p w<unN q w+1:=by exact_mod_cast k
 omega
theorem fix_RatS {s:Bool} {n d:Nat} (hd:0<d) (ln:(lim n).length<=1000:=by omega) (ld:(lim d).length<=1000:=by omega) (hw:w<=10000:=by omega):Go.Ev.Fn CX 171 [ratV s (lim n) (lim d),.int .i64 (w:Int)] (spanV (n*2^w/d) (n*2^w/d+1)):=by
 have of:=fix_Of (n:=n) (d:=d) (w:=w);generalize n*2^w/d=x at *
 refine fni Tryz.f171 ?_;unfold Tryz.f171;repeat (first|simp only[go_sem]|simp (disch:=first|exact omg|fail) only[AX]|refine wki ?_|refine vfa ?_)
end
end Go.Proofs.YtfknkoeagjonbaaGreat
namespace Go.Proofs.YtfknkoeagjonbaaGreat
open Go.Ev
theorem den_le {q:Rat} {L:Nat} (h:szR q L) (hL:L<=343:=by omega) : ∀s:Nat,s=11000->q.den<=2^s:=by
 intro s hs;have a:q.den<4294967296^(lim q.den).length:=lim_len_pow;have b:4294967296^(lim q.den).length=2^(32*(lim q.den).length):=by rw[zJ]
 have c:2^(32*(lim q.den).length)<=2^s:=xE (by omega) (by have:=h.2;omega);omega
section
variable {z:Rat} {w P:Nat} {pI:Int}
end
end Go.Proofs.YtfknkoeagjonbaaGreat
namespace Go.Proofs.YtfknkoeagjonbaaGreat
open Go.Ev
theorem told_span {A B w p:Nat} (hAB:A<=B) (hB:B<2^(w+10040)) (hp:p<w:=by omega) (hw:w<=500:=by omega) :
  ∃l h:Rat,l<=h/\0<=l/\szR l 400/\szR h 400/\l=mkRat ((A/2^(w-p):Nat):Int) (2^p)/\h=mkRat ((B/2^(w-p)+1:Nat):Int) (2^p)/\Go.Ev.Fn CX 110 [spanV A B,.int .i64 (w:Int),.int .i64 (p:Int)] (ballR l h):=by
 have lB:=lim_len_pw hB;have lA:=lim_len_mono hAB;have t:=fix_Told (a:=A) (b:=B) (w:=w) (p:=p) (by omega) (by omega) hp;have P:=p2_pos p;have a:=mk_p2 (A/2^(w-p)) p;have b:=mk_p2 (B/2^(w-p)+1) p;have d:A/2^(w-p)<=B/2^(w-p)+1:=yZ (xg hAB);have l1:=lim_len_mono (xt A (2^(w-p)));have l2:=lim_len_mono (xt B (2^(w-p)));have l3:=lim_len_add (a:=B/2^(w-p)) (b:=1) (L:=399) (by omega) (by have:=lim_len1;omega);have lp:=lim_len_shl (a:=1) (n:=p);rw[xe]at lp;have lo:=lim_len1;refine⟨_,_,le_by P ?_,le_by P ?_,szR_nat,szR_nat,rfl,rfl,t⟩
 ·rw[a,b];exact Ex.castle d
 ·rw[a,yM];exact nat_nonneg _
section
variable {z:Rat} {P:Nat} {pI:Int}
end
end Go.Proofs.YtfknkoeagjonbaaGreat
namespace Go.Proofs.YtfknkoeagjonbaaGreat
open Go.Ev
def pRow (w Y1 Y2:Nat):Nat->Nat->Nat->Nat->Nat×Nat
 |0,_,a,b=>(a,b)
 |f+1,k,a,b=>pRow w Y1 Y2 f (k+2) (a*Y1/2^w*1/k) ((b*Y2/2^w+1)*1/k+1)
def wPow (W D:Nat):Nat->Nat->Nat->Nat->Nat×Nat
 |0,_,t,d=>(t,d)
 |f+1,k,t,d=>pin (k+2) fun k'=>pin (t*W/k+2) fun t'=>pin ((d*W+t*D)/k+8) fun d'=>wPow W D f k' t' d'
theorem wPow_succ (W D f k t d:Nat):wPow W D (f+1) k t d=wPow W D f (k+2) (t*W/k+2) ((d*W+t*D)/k+8):=by
 rw[wPow,pin_eq,pin_eq,pin_eq]
theorem tk_next {c y:Rat} {k0 i:Nat}:c*tk y k0 i*y*((1:Nat):Rat)/((k0+2*i:Nat):Rat)=c*tk y k0 (i+1):=by
 show _=c*(tk y k0 i*y*((1:Nat):Rat)/((k0+2*i:Nat):Rat))
 rw[xv,xv];grind
theorem pRow_enc {w Y1 Y2 k0:Nat} {y c:Rat} (hk0:1<=k0) (hy:Enc w Y1 Y2 y) : ∀ (f i a b:Nat),Enc w a b (c*tk y k0 i)->Enc w (pRow w Y1 Y2 f (k0+2*i) a b).1 (pRow w Y1 Y2 f (k0+2*i) a b).2 (c*tk y k0 (i+f))
 |0,i,a,b,h=>h
 |f+1,i,a,b,h=>by
  have e1:=enc_times (n:=1) (d:=k0+2*i) (by omega) (enc_mul h hy);rw[tk_next]at e1;have ih:=pRow_enc hk0 hy f (i+1) _ _ e1;rw[show i+1+f=i+(f+1) by omega]at ih;exact ih
theorem pRow_wide {w Y1 Y2 W D:Nat} (hY:Y2<=W*2^w) (hY1:Y1<=Y2) (hD:Y2<=Y1+D) : ∀ (f k a b t d:Nat),1<=k->a<=b->b<=t*2^w->b<=a+d ->
  (pRow w Y1 Y2 f k a b).1<=(pRow w Y1 Y2 f k a b).2/\(pRow w Y1 Y2 f k a b).2<=(wPow W D f k t d).1*2^w/\(pRow w Y1 Y2 f k a b).2<=(pRow w Y1 Y2 f k a b).1+(wPow W D f k t d).2
 |0,k,a,b,t,d,_,h1,h2,h3=>⟨h1,h2,h3⟩
 |f+1,k,a,b,t,d,hk,h1,h2,h3=>by
  obtain⟨s1,s2⟩:=wRow_step hk hY hY1 hD h1 h2 h3;have q0:a*Y1/2^w*1/k<=(b*Y2/2^w+1)*1/k+1:=by
   refine yZ (xg (xB 1 ?_));exact yZ (xg (xJ h1 hY1))
  rw[wPow_succ];exact pRow_wide hY hY1 hD f (k+2) _ _ _ _ (by omega) q0 s1 s2
theorem mulS {w a b c d α β γ δ:Nat} (h1:a<=b) (h2:c<=d) (h3:b<=α*2^w) (h4:d<=β*2^w) (h5:b<=a+γ) (h6:d<=c+δ) :
  a*c/2^w<=b*d/2^w+1/\b*d/2^w+1<=(α*β+1)*2^w/\b*d/2^w+1<=a*c/2^w+(γ*β+α*δ+2):=by
 have P:0<2^w:=xM (by omega);refine⟨yZ (xg (xJ h1 h2)),?_,?_⟩
 ·have m:=xJ h3 h4;have q:b*d/2^w<=α*β*2^w:=by
   refine(yR P).2 ?_;have e:α*2^w*(β*2^w)=α*β*2^w*2^w:=by generalize 2^w=z;grind
   omega
  rw[xY];omega
 ·have m1:b*d<=(a+γ)*d:=xB _ h5;have m2:a*d<=a*(c+δ):=xF _ h6;have m3:γ*d<=γ*(β*2^w):=xF _ h4;have m4:a*δ<=α*2^w*δ:=xB _ (xG h1 h3);have e1:(γ*β+α*δ)*2^w=γ*(β*2^w)+α*2^w*δ:=by rw[xY,xP γ,wL α δ]
  rw[xY]at m1;rw[xZ]at m2;have h:=xg (c:=2^w) (show b*d<=a*c+(γ*β+α*δ)*2^w by omega);rw[Nat.add_mul_div_right _ _ P]at h;omega
theorem told_in {A B w q:Nat} {V:Rat} (hq:q<=w) (h:Enc w A B V):mkRat ((A/2^(w-q):Nat):Int) (2^q)<=V/\V<=mkRat ((B/2^(w-q)+1:Nat):Int) (2^q):=by
 have P:=p2_pos q;have R:=p2_pos (w-q);have a:=mk_p2 (A/2^(w-q)) q;have b:=mk_p2 (B/2^(w-q)+1) q;have f:=floor_le (a:=A) (d:=2^(w-q));have g:=le_floor (a:=B) (d:=2^(w-q)) (xM (by omega));have e:p2 w=p2 q*p2 (w-q):=by rw[<- p2_plus];congr 1;omega
 obtain⟨h1,h2⟩:=h;rw[e,<- wP]at h1 h2;refine⟨le_by P (le_by R ?_),le_by P (le_by R ?_)⟩
 ·rw[a];exact xO f h1
 ·rw[b];exact xO h2 g
theorem told_thin {A B w p:Nat} (hq:p+2<=w) (h:B<=A+2^(w-(p+2))):(mkRat ((B/2^(w-(p+2))+1:Nat):Int) (2^(p+2))-mkRat ((A/2^(w-(p+2)):Nat):Int) (2^(p+2)))*p2 p<=1:=by
 have a:=mk_p2 (A/2^(w-(p+2))) (p+2);have b:=mk_p2 (B/2^(w-(p+2))+1) (p+2);have P:0<2^(w-(p+2)):=xM (by omega);have d:=xg (c:=2^(w-(p+2))) h;rw[Nat.add_div_right _ P]at d;have d2:B/2^(w-(p+2))+1<=A/2^(w-(p+2))+4:=by omega
 have d3:((B/2^(w-(p+2))+1:Nat):Rat)<=((A/2^(w-(p+2)):Nat):Rat)+4:=by
  have:=Ex.castle d2;rw[Ex.castadd (A/2^(w-(p+2))) 4]at this;exact this
 rw[<- a,<- b]at d3;have e:p2 (p+2)=p2 p*4:=by rw[p2_plus];rfl
 rw[e]at d3;generalize mkRat ((B/2^(w-(p+2))+1:Nat):Int) (2^(p+2))=x at *
 generalize mkRat ((A/2^(w-(p+2)):Nat):Int) (2^(p+2))=y at *
 grind
def wSt (W D:Nat):Nat->Nat->Nat->Nat->Nat->Nat->Nat×Nat×Nat×Nat
 |0,_,t,d,s,e=>(t,d,s,e)
 |f+1,k,t,d,s,e=>pin (k+2) fun k'=>pin (t*W/k+2) fun t'=>pin ((d*W+t*D)/k+8) fun d'=>pin (s+t') fun s'=>pin (e+d') fun e'=>wSt W D f k' t' d' s' e'
theorem wSt_succ (W D f k t d s e:Nat):wSt W D (f+1) k t d s e=wSt W D f (k+2) (t*W/k+2) ((d*W+t*D)/k+8) (s+(t*W/k+2)) (e+((d*W+t*D)/k+8)):=by
 rw[wSt,pin_eq,pin_eq,pin_eq,pin_eq,pin_eq]
theorem wRow_late : ∀ (f k t d s e:Nat),600<=k->t<=4->d<=20->(wRow 129 41 f k t d s e).1<=s+4*f/\(wRow 129 41 f k t d s e).2<=e+20*f
 |0,k,t,d,s,e,_,_,_=>⟨xU _,xU _⟩
 |f+1,k,t,d,s,e,h1,h2,h3=>by
  have a:t*129/k<=0:=Nat.le_of_lt_succ ((yA (by omega)).2 (by omega));have b:(d*129+t*41)/k<=4:=Nat.le_of_lt_succ ((yA (by omega)).2 (by omega));have ih:=wRow_late f (k+2) (t*129/k+2) ((d*129+t*41)/k+8) (s+(t*129/k+2)) (e+((d*129+t*41)/k+8)) (by omega) (by omega) (by omega);rw[wRow_succ];exact⟨xG ih.1 (by omega),xG ih.2 (by omega)⟩
theorem wRow_st : ∀ (m f k t d s e:Nat) {t' d' s' e':Nat},wSt 129 41 m k t d s e=(t',d',s',e')->t'<=4->d'<=20->600<=k+2*m->(wRow 129 41 (m+f) k t d s e).1<=s'+4*f/\(wRow 129 41 (m+f) k t d s e).2<=e'+20*f
 |0,f,k,t,d,s,e,t',d',s',e',h,h1,h2,h3=>by
  have h':(t,d,s,e)=(t',d',s',e'):=h;simp only[Prod.mk.injEq]at h';obtain⟨rfl,rfl,rfl,rfl⟩:=h';rw[yf];exact wRow_late f k t d s e (by omega) h1 h2
 |m+1,f,k,t,d,s,e,t',d',s',e',h,h1,h2,h3=>by
  rw[wSt_succ]at h;rw[show m+1+f=m+f+1 by omega,wRow_succ];exact wRow_st m f (k+2) _ _ _ _ h h1 h2 (by omega)
def igR (n:Nat):Nat×Nat:=match wSt 129 41 300 (n+2) 2 1 2 1 with
 |(_,_,s,e)=>(s+20000,e+100000)
def igP (n:Nat):Nat×Nat:=if n%2=1 then wPow 129 41 (n/2) 3 50 400 else wPow 129 41 (n/2) 2 2 1
def igOk (n:Nat):Bool:=match wSt 129 41 300 (n+2) 2 1 2 1,igP n with
 |(t',d',s,e),(t,d)=>Nat.ble t' 4&&Nat.ble d' 20&&pin (t*(s+20001)+1) fun u=>pin (d*(s+20001)+t*(e+100008)+2) fun v=>Nat.ble (v*2+u*2+2) (2^120)
theorem ig_ok:allFrom igOk 30 1=true:=by kernel_rfl
theorem ig_at {n:Nat} (h1:1<=n) (h2:n<=30):((igP n).2*((igR n).1+1)+(igP n).1*((igR n).2+8)+2)*2+((igP n).1*((igR n).1+1)+1)*2+2<=2^120 /\
  (wRow 129 41 5200 (n+2) 2 1 2 1).1<=(igR n).1/\(wRow 129 41 5200 (n+2) 2 1 2 1).2<=(igR n).2:=by
 have h:=allFrom_at ig_ok n h1 (by omega);unfold igOk at h;unfold igR;have st:=fun t' d' s' e'=>wRow_st 300 4900 (n+2) 2 1 2 1 (t':=t') (d':=d') (s':=s') (e':=e')
 rw[show 300+4900=5200 from rfl]at st;generalize wRow 129 41 5200 (n+2) 2 1 2 1=R at *
 generalize wSt 129 41 300 (n+2) 2 1 2 1=r at *
 generalize igP n=q at *
 obtain⟨t',d',s,e⟩:=r;obtain⟨t,d⟩:=q;generalize 2^120=K1 at *
 simp only[pin_eq,xj]at h;obtain⟨⟨g1,g2⟩,g3⟩:=h;obtain⟨a,b⟩:=st t' d' s e rfl (yC g1) (yC g2) (by omega);exact⟨yC g3,xG a (show s+4*4900<=s+20000 by omega),xG b (show e+20*4900<=e+100000 by omega)⟩
end Go.Proofs.YtfknkoeagjonbaaGreat
namespace Go.Ev
def ivOkB (w:Nat):Bool:=match piIv w with
 |some (lo,hi)=>Nat.ble (lo*2^(800-w)) (rootPi*rootPi)&&(Nat.ble (rootPi*rootPi) (hi*2^(800-w))&&(Nat.ble (2^w) lo&&Nat.ble hi (2^(w+3))))
 |none=>false
theorem iv_okB:allFrom ivOkB 351 50=true:=by kernel_rfl
end Go.Ev
namespace Go.Proofs.YtfknkoeagjonbaaGreat
open Go.Ev
def dRow (w Y1 Y2:Nat) (y:Rat):Nat->Nat->Nat->Nat->Nat->Nat->Option (Nat×Nat)
 |0,_,_,_,_,_=>none
 |f+1,k,t1,t2,s1,s2=>if cdv (cdv (t2*Y2) (2^w)) k<=2/\y+y<=((k+2:Nat):Rat) then some (s1+t1*Y1/2^w/k-8,s2+cdv (cdv (t2*Y2) (2^w)) k+8) else
   dRow w Y1 Y2 y f (k+2) (t1*Y1/2^w/k) (cdv (cdv (t2*Y2) (2^w)) k) (s1+t1*Y1/2^w/k) (s2+cdv (cdv (t2*Y2) (2^w)) k)
def dInv (w k0 i k t1 t2 s1 s2:Nat):Prop:=k=k0+2*i/\t1<=t2/\t2<=2^(w+7*min i 128)/\2^w<=s1/\s1<=s2/\s2<=(i+1)*2^(w+896)
theorem dInv_0 (w k0:Nat):dInv w k0 0 k0 (2^w) (2^w) (2^w) (2^w):=by
 have:2^w<=2^(w+896):=xE (by omega) (by omega);exact⟨by omega,by omega,by rw[Nat.zero_min,yY,yJ];omega,by omega,by omega,by omega⟩
theorem dStep_le {w Y2 k t2:Nat} (hY:Y2<=2^w*128) (hk:1<=k):cdv (cdv (t2*Y2) (2^w)) k<=t2*128/\(256<=k->2*cdv (cdv (t2*Y2) (2^w)) k<=t2+1):=by
 have P:0<2^w:=xM (by omega);have a:cdv (t2*Y2) (2^w)<=t2*128:=cdv_le P (by
  have m:=xF t2 hY;rw[xV (2^w),<- xP]at m;exact m)
 refine⟨xG (cdv_self _ hk) a,fun g => ?_⟩;have b:cdv (cdv (t2*Y2) (2^w)) k<=(t2+1)/2:=cdv_le hk (by
  have h:t2<=(t2+1)/2*2:=by omega
  have m:=xF ((t2+1)/2) g;omega)
 omega
theorem dInv_step {w Y1 Y2 k0 i k t1 t2 s1 s2:Nat} (hY:Y2<=2^w*128) (h12:Y1<=Y2) (hk0:1<=k0) (h:dInv w k0 i k t1 t2 s1 s2) :
  dInv w k0 (i+1) (k+2) (t1*Y1/2^w/k) (cdv (cdv (t2*Y2) (2^w)) k) (s1+t1*Y1/2^w/k) (s2+cdv (cdv (t2*Y2) (2^w)) k):=by
 obtain⟨h1,h2,h3,h4,h5,h6⟩:=h;have P:0<2^w:=xM (by omega);have hk:0<k:=by omega
 obtain⟨u1,u2⟩:=dStep_le (t2:=t2) hY hk;have u12:t1*Y1/2^w/k<=cdv (cdv (t2*Y2) (2^w)) k:=div_le_cdv hk (div_le_cdv P (xJ h2 h12));generalize t1*Y1/2^w/k=x at *
 generalize cdv (cdv (t2*Y2) (2^w)) k=z at *
 have nt:z<=2^(w+7*min (i+1) 128):=by
  by_cases hi:i<128
  ·rw[show min (i+1) 128=min i 128+1 by omega,show w+7*(min i 128+1)=(w+7*min i 128)+7 by omega,xN _ _ 7,show (2:Nat)^7=128 from rfl];omega
  ·rw[show min (i+1) 128=min i 128 by omega];have:2^0<=2^(w+7*min i 128):=xE (by omega) (by omega);have:=u2 (by omega);omega
 have up:2^(w+7*min (i+1) 128)<=2^(w+896):=xE (by omega) (by omega);refine⟨by omega,u12,nt,by omega,by omega,?_⟩;rw[xY (i+1) 1,xe];omega
theorem two_le {y c:Rat} (h:y<=128) (g:256<=c):y+y<=c:=by grind
theorem dbl_four (x:Rat):x*4=x*2+x*2:=by grind
theorem dRow_low {w Y1 Y2 k0:Nat} {y:Rat} (hY:Y2<=2^w*128) (h12:Y1<=Y2) (hk0:1<=k0) (hy:y<=128) (hw:8<=2^w) : ∀ (m f i k t1 t2 s1 s2:Nat),dInv w k0 i k t1 t2 s1 s2->256<=k->t2<=2^m+1->m+1<=f -> ∃A B,dRow w Y1 Y2 y f k t1 t2 s1 s2=some (A,B)/\A<=B/\B<=(i+m+3)*2^(w+896):=by
 have fin : ∀i k t1 t2 s1 s2:Nat,dInv w k0 i k t1 t2 s1 s2->s1-8<=s2+8/\s2+8<=(i+2)*2^(w+896):=by
  intro i k t1 t2 s1 s2 h;obtain⟨h1,h2,h3,h4,h5,h6⟩:=h;have:2^w<=2^(w+896):=xE (by omega) (by omega);refine⟨by omega,?_⟩;rw[show i+2=i+1+1 by omega,xY (i+1) 1];omega
 have late : ∀k:Nat,256<=k->y+y<=((k+2:Nat):Rat):=by
  intro k hk;have c:((256:Nat):Rat)<=((k+2:Nat):Rat):=Ex.castle (by omega);rw[show ((256:Nat):Rat)=256 from rfl]at c;exact two_le hy c
 intro m;induction m with
 |zero=>
  intro f i k t1 t2 s1 s2 h hk ht hf;obtain⟨f,rfl⟩ : ∃j,f=j+1:=⟨f-1,by omega⟩
  have st:=(dStep_le (t2:=t2) hY (show 1<=k by omega)).2 hk;have iv:=dInv_step hY h12 hk0 h;have:2^0=1:=rfl;rw[dRow,if_pos ⟨by omega,late k hk⟩];obtain⟨q1,q2⟩:=fin _ _ _ _ _ _ iv;exact⟨_,_,rfl,q1,xG q2 (xB _ (by omega))⟩
 |succ m ih=>
  intro f i k t1 t2 s1 s2 h hk ht hf;obtain⟨f,rfl⟩ : ∃j,f=j+1:=⟨f-1,by omega⟩
  have st:=(dStep_le (t2:=t2) hY (show 1<=k by omega)).2 hk;have iv:=dInv_step hY h12 hk0 h;have e2:2^(m+1)=2^m*2:=xW _ _;rw[dRow];by_cases g:cdv (cdv (t2*Y2) (2^w)) k<=2/\y+y<=((k+2:Nat):Rat)
  ·rw[if_pos g];obtain⟨q1,q2⟩:=fin _ _ _ _ _ _ iv;exact⟨_,_,rfl,q1,xG q2 (xB _ (by omega))⟩
  ·rw[if_neg g];obtain⟨A,B,r1,r2,r3⟩:=ih f (i+1) (k+2) _ _ _ _ iv (by omega) (by omega) (by omega);exact⟨A,B,r1,r2,by rw[show i+(m+1)+3=i+1+m+3 by omega];exact r3⟩
theorem dRow_end {w Y1 Y2 k0:Nat} {y:Rat} (hY:Y2<=2^w*128) (h12:Y1<=Y2) (hk0:1<=k0) (hy:y<=128) (hw:8<=2^w) (hw2:w<=1000) : ∀ (d f i k t1 t2 s1 s2:Nat),dInv w k0 i k t1 t2 s1 s2->256<=k+2*d->i+d<=128->d+1900<=f -> ∃A B,dRow w Y1 Y2 y f k t1 t2 s1 s2=some (A,B)/\A<=B/\B<=2^(w+908):=by
 have up : ∀z B:Nat,z<=4096->B<=z*2^(w+896)->B<=2^(w+908):=by
  intro z B hz hB;rw[show w+908=12+(w+896) by omega,xN 2 12];exact xG hB (xB _ hz)
 intro d;induction d with
 |zero=>
  intro f i k t1 t2 s1 s2 h hk hi hf;have h3:=h.2.2.1;obtain⟨m,hm⟩ : ∃m:Nat,m=1896:=⟨_,rfl⟩
  obtain⟨A,B,r1,r2,r3⟩:=dRow_low hY h12 hk0 hy hw m f i k t1 t2 s1 s2 h (by omega) (yZ (xG h3 (xE (by omega) (by omega)))) (by omega);exact⟨A,B,r1,r2,up _ _ (by omega) r3⟩
 |succ d ih=>
  intro f i k t1 t2 s1 s2 h hk hi hf;obtain⟨f,rfl⟩ : ∃j,f=j+1:=⟨f-1,by omega⟩
  have iv:=dInv_step hY h12 hk0 h;rw[dRow];by_cases g:cdv (cdv (t2*Y2) (2^w)) k<=2/\y+y<=((k+2:Nat):Rat)
  ·rw[if_pos g];obtain⟨h1,h2,h3,h4,h5,h6⟩:=iv;have:2^w<=2^(w+896):=xE (by omega) (by omega);refine⟨_,_,rfl,by omega,up (i+3) _ (by omega) ?_⟩;rw[show i+3=i+1+1+1 by omega,xY (i+1+1) 1];omega
  ·rw[if_neg g];exact ih f (i+1) (k+2) _ _ _ _ iv (by omega) (by omega) (by omega)
theorem dRow_enc {w Y1 Y2 k0:Nat} {y:Rat} (hk0:1<=k0) (hy:Enc w Y1 Y2 y) : ∀ (f i t1 t2 s1 s2 A B:Nat),dRow w Y1 Y2 y f (k0+2*i) t1 t2 s1 s2=some (A,B)->Enc w t1 t2 (tk y k0 i)->Enc w s1 s2 (sk y k0 (i+1)) -> ∃s,∀L,s<=L->Enc w A B (sk y k0 L):=by
 have y0:=enc_nonneg hy;have P:=p2_pos w;intro f;induction f with
 |zero=>intro i t1 t2 s1 s2 A B h;cases h
 |succ f ih=>
  intro i t1 t2 s1 s2 A B h ht hs;have e1:=enc_byN (n:=1) (m:=k0+2*i) (by omega) (enc_prodN ht hy);rw[show tk y k0 i*y*((1:Nat):Rat)/((k0+2*i:Nat):Rat)=tk y k0 (i+1) from rfl,xu,xu]at e1;have e3:=enc_add hs e1;rw[show sk y k0 (i+1)+tk y k0 (i+1)=sk y k0 (i+1+1) from rfl]at e3;rw[dRow]at h;generalize t1*Y1/2^w/(k0+2*i)=u1 at *
  generalize cdv (cdv (t2*Y2) (2^w)) (k0+2*i)=u2 at *
  by_cases g:u2<=2/\y+y<=((k0+2*i+2:Nat):Rat)
  ·rw[if_pos g]at h;simp only[Option.some.injEq,Prod.mk.injEq]at h;obtain⟨rfl,rfl⟩:=h;have t3:(u2:Rat)<=2:=Ex.castle (b:=2) g.1;refine⟨i+1+1,fun L hL => ?_⟩;have up:=sk_up hk0 y0 hL;have top:=sk_top (i:=i+1) (L:=L) hk0 y0 (by rw[show k0+2*(i+1)=k0+2*i+2 by omega];exact g.2);have m1:=xA up (xX P);have m2:=xA top (xX P);have sub:((s1+u1-8:Nat):Rat)<=((s1+u1:Nat):Rat):=Ex.castle (by omega);refine⟨xO sub (xO e3.1 m1),xO m2 ?_⟩;rw[Ex.castadd (s2+u2) 8,show ((8:Nat):Rat)=8 from rfl,Rat.add_mul];have a:=e3.2;have b:=e1.2;generalize sk y k0 (i+1+1)*p2 w=p at *
   generalize tk y k0 (i+1)*p2 w=q at *
   clear m1 m2 up top ih;grind
  ·rw[if_neg g]at h;exact ih (i+1) _ _ _ _ A B h e1 e3
theorem iv_piB {W:Nat} (h1:50<=W:=by omega) (h2:W<=400:=by omega) : ∃lo hi:Nat,piIv W=some (lo,hi)/\(lo:Rat)<=SQ*SQ*p2 W/\SQ*SQ*p2 W<=(hi:Rat)/\2^W<=lo/\lo<=hi/\hi<=2^(W+3):=by
 have h:=allFrom_at iv_okB W h1 (by omega);unfold ivOkB at h;split at h
 ·rename_i lo hi hpi;rw[xj,xj,xj]at h;obtain⟨a,b,c,d⟩:=h;have a':=yC a;have b':=yC b;exact⟨lo,hi,hpi,sq_lo (by omega) a',sq_hi (by omega) b',yC c,yw (xG a' b') (xM (by omega)),yC d⟩
 ·cases h
end Go.Proofs.YtfknkoeagjonbaaGreat
namespace Go.Proofs.YtfknkoeagjonbaaGreat
open Go.Ev
theorem divZ_neg {n d:Nat} (hd:0<d) : -(n:Int)/(d:Int) = -((cdv n d:Nat):Int):=by
 have h:=cdZ_nat (n:=n) hd;unfold cdZ at h;omega
theorem cdZ_neg {n d:Nat}:cdZ (-(n:Int)) d = -((n/d:Nat):Int):=by
 unfold cdZ;rw[Int.neg_neg,<- wc]
theorem loQ_mix {a b c d:Nat} (h1:a<=b) (h2:c<=d):loQ a b (-(d:Int)) (-(c:Int)) = -((b*d:Nat):Int)/\hiQ a b (-(d:Int)) (-(c:Int)) = -((a*c:Nat):Int):=by
 have e1:a*c<=a*d:=xF _ h2;have e2:a*c<=b*c:=xB _ h1;have e3:b*c<=b*d:=xF _ h2;have e4:a*d<=b*d:=xB _ h1;unfold loQ loP hiQ hiP mnZ mxZ;rw[wt,wt,wt,wt,<- xw,<- xw,<- xw,<- xw];generalize a*c=x1 at *
 generalize a*d=x2 at *
 generalize b*c=x3 at *
 generalize b*d=x4 at *
 constructor<;>(repeat' split)<;>omega
theorem loQ_neg {a b c d:Nat} (h1:a<=b) (h2:c<=d):loQ (-(b:Int)) (-(a:Int)) (-(d:Int)) (-(c:Int))=((a*c:Nat):Int)/\hiQ (-(b:Int)) (-(a:Int)) (-(d:Int)) (-(c:Int))=((b*d:Nat):Int):=by
 have e1:a*c<=a*d:=xF _ h2;have e2:a*c<=b*c:=xB _ h1;have e3:b*c<=b*d:=xF _ h2;have e4:a*d<=b*d:=xB _ h1;unfold loQ loP hiQ hiP mnZ mxZ;rw[Int.neg_mul_neg,Int.neg_mul_neg,Int.neg_mul_neg,Int.neg_mul_neg,<- xw,<- xw,<- xw,<- xw];generalize a*c=x1 at *
 generalize a*d=x2 at *
 generalize b*c=x3 at *
 generalize b*d=x4 at *
 constructor<;>(repeat' split)<;>omega
def sgL (i t1 t2:Nat):Int:=if i%2=1 then (t1:Int) else -(t2:Int)
def sgH (i t1 t2:Nat):Int:=if i%2=1 then (t2:Int) else -(t1:Int)
theorem ey_round {w Y1 Y2 i t1 t2:Nat} {s1 s2:Int} (hw0:0<w) (hw:w<=4096) (hi:1<=i) (hi2:i<1000000) (h12:Y1<=Y2) (ht:t1<=t2) (lY:(lim Y2).length<=1000) (lt:(lim t2).length<=1000) (l1:(lim s1.natAbs).length<=1000) (l2:(lim s2.natAbs).length<=1000) :
  ∃V1 V2:Int,Go.Ev.Fn CX 190 [ivV (sgL i t1 t2) (sgH i t1 t2),ivV (-(Y2:Int)) (-(Y1:Int)),.int .i64 (w:Int)] (ivV V1 V2) /\
   Go.Ev.Fn CX 259 [ivV V1 V2,.int .i64 (i:Int)] (ivV (sgL (i+1) (t1*Y1/2^w/i) (cdv (cdv (t2*Y2) (2^w)) i)) (sgH (i+1) (t1*Y1/2^w/i) (cdv (cdv (t2*Y2) (2^w)) i))) /\
   Go.Ev.Fn CX 143 [ivV s1 s2,ivV (sgL (i+1) (t1*Y1/2^w/i) (cdv (cdv (t2*Y2) (2^w)) i)) (sgH (i+1) (t1*Y1/2^w/i) (cdv (cdv (t2*Y2) (2^w)) i))] (ivV (if i%2=1 then s1-(cdv (cdv (t2*Y2) (2^w)) i:Nat) else s1+(t1*Y1/2^w/i:Nat)) (if i%2=1 then s2-(t1*Y1/2^w/i:Nat) else s2+(cdv (cdv (t2*Y2) (2^w)) i:Nat))) /\
   Go.Ev.Fn CX 260 [ivV (sgL (i+1) (t1*Y1/2^w/i) (cdv (cdv (t2*Y2) (2^w)) i)) (sgH (i+1) (t1*Y1/2^w/i) (cdv (cdv (t2*Y2) (2^w)) i))] (intN (cdv (cdv (t2*Y2) (2^w)) i)):=by
 have P:0<2^w:=xM (by omega);have lt1:=lim_len_mono ht;have lY1:=lim_len_mono h12;have z:=lim_len_mul (a:=t2) (b:=Y2);have lv2:=lim_len_mono (cdv_self (t2*Y2) P);have v12:t1*Y1/2^w<=cdv (t2*Y2) (2^w):=div_le_cdv P (xJ ht h12);have lv1:=lim_len_mono v12;have u12:t1*Y1/2^w/i<=cdv (cdv (t2*Y2) (2^w)) i:=div_le_cdv hi v12;have lu2:=lim_len_mono (cdv_self (cdv (t2*Y2) (2^w)) hi);have lu1:=lim_len_mono u12;by_cases g:i%2=1
 ·have eL:sgL i t1 t2=(t1:Int):=if_pos g;have eH:sgH i t1 t2=(t2:Int):=if_pos g;have pr:=ref4_Prod (a:=(t1:Int)) (b:=(t2:Int)) (c := -(Y2:Int)) (d := -(Y1:Int)) (w:=w) (by rw[xK];omega) (by rw[xK];omega) (by rw[yb,xK];omega) (by rw[yb,xK];omega) hw hw0;rw[(loQ_mix ht h12).1,(loQ_mix ht h12).2,divZ_neg P,cdZ_neg]at pr;have e1:sgL (i+1) (t1*Y1/2^w/i) (cdv (cdv (t2*Y2) (2^w)) i) = -((cdv (cdv (t2*Y2) (2^w)) i:Nat):Int):=if_neg (by omega);have e2:sgH (i+1) (t1*Y1/2^w/i) (cdv (cdv (t2*Y2) (2^w)) i) = -((t1*Y1/2^w/i:Nat):Int):=if_neg (by omega);rw[eL,eH,e1,e2,if_pos g,if_pos g]
  generalize cdv (t2*Y2) (2^w)=v2 at *
  generalize t1*Y1/2^w=v1 at *
  have by1:=ref4_By (a := -(v2:Int)) (b := -(v1:Int)) (by rw[yb,xK];omega) (by rw[yb,xK];omega) i hi (by omega);rw[divZ_neg hi,cdZ_neg]at by1;generalize cdv v2 i=u2 at *
  generalize v1/i=u1 at *
  have sm:=ref4_Sum (a:=s1) (b:=s2) (c := -(u2:Int)) (d := -(u1:Int)) (by omega) (by omega) (by rw[yb,xK];omega) (by rw[yb,xK];omega);have mo:=ref4_Most (a := -(u2:Int)) (b := -(u1:Int)) (by rw[yb,xK];omega) (by rw[yb,xK];omega);rw[yb,yb,xK,xK,Nat.max_eq_left u12,intN_eq]at mo;rw[<- Int.sub_eq_add_neg,<- Int.sub_eq_add_neg]at sm;exact⟨_,_,pr,by1,sm,mo⟩
 ·have eL:sgL i t1 t2 = -(t2:Int):=if_neg g;have eH:sgH i t1 t2 = -(t1:Int):=if_neg g;have pr:=ref4_Prod (a := -(t2:Int)) (b := -(t1:Int)) (c := -(Y2:Int)) (d := -(Y1:Int)) (w:=w) (by rw[yb,xK];omega) (by rw[yb,xK];omega) (by rw[yb,xK];omega) (by rw[yb,xK];omega) hw hw0;rw[(loQ_neg ht h12).1,(loQ_neg ht h12).2,cdZ_nat P,<- wc]at pr;have e1:sgL (i+1) (t1*Y1/2^w/i) (cdv (cdv (t2*Y2) (2^w)) i)=((t1*Y1/2^w/i:Nat):Int):=if_pos (by omega);have e2:sgH (i+1) (t1*Y1/2^w/i) (cdv (cdv (t2*Y2) (2^w)) i)=((cdv (cdv (t2*Y2) (2^w)) i:Nat):Int):=if_pos (by omega);rw[eL,eH,e1,e2,if_neg g,if_neg g]
  generalize cdv (t2*Y2) (2^w)=v2 at *
  generalize t1*Y1/2^w=v1 at *
  have by1:=ref4_By (a:=(v1:Int)) (b:=(v2:Int)) (by rw[xK];omega) (by rw[xK];omega) i hi (by omega);rw[cdZ_nat hi,<- wc]at by1;generalize cdv v2 i=u2 at *
  generalize v1/i=u1 at *
  have sm:=ref4_Sum (a:=s1) (b:=s2) (c:=(u1:Int)) (d:=(u2:Int)) (by omega) (by omega) (by rw[xK];omega) (by rw[xK];omega);have mo:=ref4_Most (a:=(u1:Int)) (b:=(u2:Int)) (by rw[xK];omega) (by rw[xK];omega);rw[xK,xK,Nat.max_eq_right u12,intN_eq]at mo;exact⟨_,_,pr,by1,sm,mo⟩
section
variable {w Y1 Y2:Nat}
set_option maxHeartbeats 1000000 in
theorem ref6_row (hw0:64<=w) (hw:w<=900) (hY:4*Y2<=2^w) (h12:Y1<=Y2) : ∃A B:Nat,0<A/\A<=B/\B<=2^(w+1)/\nRow w Y1 Y2 (w/2+3) 1 (2^w) (2^w) (2^w:Nat) (2^w:Nat)=some ((A:Int),(B:Int)) /\
  Go.Ev.Fn CX 220 [ivV (-(Y2:Int)) (-(Y1:Int)),.int .i64 (w:Int)] (ivN A B):=by
 have i0:=nInv_0 w;have big:64*64<=2^w:=xG (show 64*64<=2^64 by decide) (xE (by omega) hw0);have bw:16*w<=2^w:=by
  have h1:16*w<=2^14:=by omega
  exact xG h1 (xE (by omega) (by omega))
 obtain⟨A',B',hr,hAB,hA,hB⟩:=nRow_end (w:=w) hY h12 (w/2+1) (w/2+3) 1 (2^w) (2^w) _ _ i0 (by
  have e:4^(w/2+1)=2^(2*(w/2+1)):=by rw[zJ]
  rw[e];have:=xE (n:=2) (by omega) (show w<=2*(w/2+1) by omega);omega) (by omega)
 obtain⟨A,rfl⟩ : ∃A:Nat,A'=(A:Int):=⟨A'.toNat,by omega⟩
 obtain⟨B,rfl⟩ : ∃B:Nat,B'=(B:Int):=⟨B'.toNat,by omega⟩
 have e1:2^(w+1)=2^w*2:=xW _ _;refine⟨A,B,by omega,by omega,by omega,hr,?_⟩;have lp:=lim_len_p2 (n:=2^w) (w:=w) (xU _);have lY:(lim Y2).length<=40:=lim_len_p2 (w:=w);have lens:=fun (i t1 t2:Nat) (s1 s2:Int) (hi:i<=w) (h:nInv w i t1 t2 s1 s2)=>(show (lim t2).length<=40/\(lim s1.natAbs).length<=80/\(lim s2.natAbs).length<=80/\t1<=t2/\1<=i from by
  obtain⟨q1,q2,q3,q4,q5,q6⟩:=h;exact⟨lim_len_p2 q3,xG (lim_len_p2 (w:=w+1)) (by omega),xG (lim_len_p2 (w:=w+1)) (by omega),q2,q1⟩)
 have step:=fun (i t1 t2:Nat) (s1 s2:Int) (h:nInv w i t1 t2 s1 s2)=>nInv_step (Y1:=Y1) hY h12 h
 have n1:=ref4_NumN (w:=w) (RatA_rv (one_szR')) (by omega) (by omega) (by omega) (show (0:Rat)<=1 by decide);have u1:unN 1 w=2^w:=by show 1*2^w/1=_;rw[xe,wI]
 have u2:upN 1 w=2^w:=by show cdv (1*2^w) 1=_;unfold cdv;rw[xe,wI];omega
 rw[u1,u2]at n1;have i1:=ref2_Int 1;rw[show ((1:Int):Rat)=1 from rfl]at i1;have w2:=ref4_Whole 2;rw[show (2:Int)=((2:Nat):Int) from rfl,intN_eq]at w2;have l2:(lim 2).length<=1:=lim_len_one (by decide);have b0:decide ((((2^w:Nat):Int))<0)=false:=decide_eq_false (by omega);obtain⟨yn1,hyn1⟩ : ∃z:Int,z = -(Y2:Int):=⟨_,rfl⟩
 obtain⟨yn2,hyn2⟩ : ∃z:Int,z = -(Y1:Int):=⟨_,rfl⟩
 have rnd:=fun (i t1 t2:Nat) (s1 s2:Int)=>ey_round (w:=w) (Y1:=Y1) (Y2:=Y2) (i:=i) (t1:=t1) (t2:=t2) (s1:=s1) (s2:=s2) (by omega) (by omega)
 rw[<- hyn1,<- hyn2]at rnd ⊢;clear u1 u2 hA hB hAB e1 big bw;refine fni Tryz.f220 ?_;unfold Tryz.f220;repeat (first|simp only[go_sem]|simp (disch:=first|exact omg|fail) only[AX]|refine wki ?_|refine vpd 2 [] ?_|refine vfa ?_)
 refine vp_loop_inv (fun s=>s.tmp 1 = .sv (.int .i64 (w:Int))/\s.tmp 2 = .ptr 2 0 0/\s.obj 2 0=some [.bool (decide (yn1<0)),natV (lim yn1.natAbs),.bool (decide (yn2<0)),natV (lim yn2.natAbs)]/\s.tmp 4 = .ptr 4 0 0/\s.obj 4 0=some [.bool false,.sl 0 [],.bool false,.sl 0 []]/\s.tmp 6 = .ptr 6 0 0/\s.tmp 7 = .ptr 7 0 0 /\
   ∃f i t1 t2:Nat,∃s1 s2:Int,s.tmp 8 = .sv (.int .i64 (i:Int))/\f+i=w/2+4/\nRow w Y1 Y2 f i t1 t2 s1 s2=some ((A:Int),(B:Int))/\s.obj 6 0=some [.bool (decide (s1<0)),natV (lim s1.natAbs),.bool (decide (s2<0)),natV (lim s2.natAbs)]/\s.obj 7 0=some [.bool (decide (sgL i t1 t2<0)),natV (lim (sgL i t1 t2).natAbs),.bool (decide (sgH i t1 t2<0)),natV (lim (sgH i t1 t2).natAbs)]/\nInv w i t1 t2 s1 s2)
  (fun s=>match s.tmp 8 with | .sv (.int _ i)=>w/2+5-i.toNat|_=>0) ⟨rfl,rfl,rfl,rfl,rfl,rfl,rfl,_,1,_,_,_,_,rfl,by omega,hr,by rw[b0,xK];rfl,by rw[show sgL 1 (2^w) (2^w)=((2^w:Nat):Int) from rfl,show sgH 1 (2^w) (2^w)=((2^w:Nat):Int) from rfl,b0,xK];rfl,i0⟩ ?_
 rintro s ⟨i1',i2,o2,i4,o4,i6,i7,f,i,t1,t2,s1,s2,i8,hfi,hgo,o6,o7,hok⟩
 obtain⟨lt2,ls1,ls2,t12,hi1⟩:=lens i t1 t2 s1 s2 (by omega) hok;have st:=step i t1 t2 s1 s2 hok;cases f with
 |zero=>simp only[nRow]at hgo;cases hgo
 |succ f=>
  obtain⟨V1,V2,pr,by1,sm,mo⟩:=rnd i t1 t2 s1 s2 hi1 (by omega) h12 t12 (by omega) (by omega) (by omega) (by omega);obtain⟨lu2,lz1,lz2,-,-⟩:=lens (i+1) _ _ _ _ (by omega) st;rw[nRow]at hgo;generalize (if i%2=1 then s1-(cdv (cdv (t2*Y2) (2^w)) i:Nat) else s1+(t1*Y1/2^w/i:Nat))=z1 at *
  generalize (if i%2=1 then s2-(t1*Y1/2^w/i:Nat) else s2+(cdv (cdv (t2*Y2) (2^w)) i:Nat))=z2 at *
  generalize t1*Y1/2^w/i=u1 at *
  generalize cdv (cdv (t2*Y2) (2^w)) i=u2 at *
  have cc:=ref4_CmpN (a:=u2) (b:=2);have ec:decide (cmpZ ((u2:Nat):Int) ((2:Nat):Int)<=0)=decide (u2<=2):=by rw[cmpZ_le];exact decide_eq_decide.2 (by omega)
  generalize cmpZ ((u2:Nat):Int) ((2:Nat):Int)=cz at *
  have wd:=ref4_Wide (a:=z1) (b:=z2) (by omega) (by omega) 4 (by omega);clear lens step rnd hr;by_cases hu:u2<=2
  ·rw[decide_eq_true hu]at ec;rw[if_pos hu]at hgo;simp only[Option.some.injEq,Prod.mk.injEq]at hgo;rw[hgo.1,hgo.2,ivN_eq]at wd;clear hgo st;generalize sgL (i+1) u1 u2=T1 at *
   generalize sgH (i+1) u1 u2=T2 at *
   repeat (first|simp only[go_sem,i1',i2,o2,i4,o4,i6,i7,i8,o6,o7,ec]|simp (disch:=first|exact omg|fail) only[AX,i1',i2,o2,i4,o4,i6,i7,i8,o6,o7,ec]|refine wki ?_|refine vpd 2 [] ?_|refine vf_of (by first|exact pr|exact by1|exact sm|exact mo|exact w2|exact cc|exact wd) ?_)
  ·rw[decide_eq_false hu]at ec;rw[if_neg hu]at hgo
   have fin : ∀T1 T2:Int,T1=sgL (i+1) u1 u2->T2=sgH (i+1) u1 u2->(∃f' i' t1 t2:Nat,∃s1 s2:Int,TV.sv (.int .i64 ((i+1:Nat):Int)) = .sv (.int .i64 (i':Int))/\f'+i'=w/2+4/\nRow w Y1 Y2 f' i' t1 t2 s1 s2=some ((A:Int),(B:Int))/\[SV.bool (decide (z1<0)),natV (lim z1.natAbs),.bool (decide (z2<0)),natV (lim z2.natAbs)]=[.bool (decide (s1<0)),natV (lim s1.natAbs),.bool (decide (s2<0)),natV (lim s2.natAbs)]/\[SV.bool (decide (T1<0)),natV (lim T1.natAbs),.bool (decide (T2<0)),natV (lim T2.natAbs)]=[.bool (decide (sgL i' t1 t2<0)),natV (lim (sgL i' t1 t2).natAbs),.bool (decide (sgH i' t1 t2<0)),natV (lim (sgH i' t1 t2).natAbs)]/\nInv w i' t1 t2 s1 s2):=by
    rintro T1 T2 rfl rfl
    exact⟨f,i+1,u1,u2,z1,z2,rfl,by omega,hgo,rfl,rfl,st⟩
   have fin2:=fin _ _ rfl rfl;clear fin hgo st;generalize sgL (i+1) u1 u2=T1 at *
   generalize sgH (i+1) u1 u2=T2 at *
   repeat (first|simp only[go_sem,i1',i2,o2,i4,o4,i6,i7,i8,o6,o7,ec]|simp (disch:=first|exact omg|fail) only[AX,i1',i2,o2,i4,o4,i6,i7,i8,o6,o7,ec]|refine wki ?_|refine vpd 2 [] ?_|refine vf_of (by first|exact pr|exact by1|exact sm|exact mo|exact w2|exact cc) ?_)
   exact⟨fin2,by omega⟩
theorem neg_numE (y:Rat) (h:0<=y):(-y).num = -((y.num.natAbs:Nat):Int):=by rw[Rat.neg_num,num_abs h]
theorem ref4_NumNeg {v:SV} {y:Rat} {L:Nat} (hv:RatA v (-y) L) (hL1:1<=L) (hL:L<=100000) (hw:w<=4096) (h0:0<=y):Go.Ev.Fn CX 121 [v,.int .i64 (w:Int)] (ivV (-((upN y w:Nat):Int)) (-((unN y w:Nat):Int))):=by
 have h:=ref4_Num hv hL1 hL hw;rw[neg_numE y h0,Rat.neg_den,Int.neg_mul,<- xw,divZ_neg y.den_pos,cdZ_neg]at h;exact h
theorem sq_one:Enc w (2^w) (2^w) 1:=⟨by rw[yK];exact xi,by rw[yK];exact xi⟩
set_option maxHeartbeats 1000000 in
theorem ref6_IvX {v:SV} {x:Rat} {L:Nat} (hv:RatA v x L) (hL1:1<=L) (hL:L<=300) (h0:x<=0) (h64 : -64<=x) (hw:w<=600) :
  ∃A B:Nat,A<=B/\B<=2^(w+130+256)/\Go.Ev.Fn CX 150 [v,.int .i64 (w:Int)] (ivN A B)/\(∃s,∀L,s<=L->Enc w A B (evX x L)) /\
   ∃A0 B0:Nat,nRow (w+130) (unN (-x*(1/256)) (w+130)) (upN (-x*(1/256)) (w+130)) ((w+130)/2+3) 1 (2^(w+130)) (2^(w+130)) (2^(w+130):Nat) (2^(w+130):Nat)=some ((A0:Int),(B0:Int))/\A=(sqn (w+130) 8 A0 B0).1/2^130/\B=cdv (sqn (w+130) 8 A0 B0).2 (2^130):=by
 obtain⟨W,hW,hw1,hw2,hwi⟩ : ∃W:Nat,(∀Q:Nat->Prop,Q W->Q (w+130))/\130<=W/\W<=730/\(w:Int)+130=(W:Int):=⟨w+130,fun Q h=>h,by omega,by omega,rfl⟩
 obtain⟨y,hy⟩ : ∃y:Rat,y = -x*(1/256):=⟨_,rfl⟩
 have h256:(1/256:Rat)*256=1:=by decide +kernel
 have y256:((256:Nat):Rat)*y = -x:=by rw[hy,show ((256:Nat):Rat)=256 from rfl];grind
 have y0:0<=y:=by rw[hy];exact xL (by grind) (by decide +kernel)
 have y4:y*((4:Nat):Rat)<=((1:Nat):Rat):=by
  rw[show ((4:Nat):Rat)=4 from rfl,show ((1:Nat):Rat)=1 from rfl];rw[show ((256:Nat):Rat)=256 from rfl]at y256;grind
 have yh:(y+y)+(y+y)<=1:=by
  rw[show ((4:Nat):Rat)=4 from rfl,show ((1:Nat):Rat)=1 from rfl]at y4;grind
 have xy:x*mkRat 1 (2^8) = -y:=by
  rw[show mkRat 1 (2^8)=(1/256:Rat) by decide +kernel,hy];grind
 have zx:=szR_of hv hL1;have z8:szR (mkRat 1 (2^8)) 1:=⟨lim_len_lt (by decide +kernel),lim_len_lt (by decide +kernel)⟩
 have zq:=szR_mul zx z8 hL1;have mu:=ref2_Mul hv (RatA_rv z8) hL1;rw[xy]at mu zq;have nm:=ref4_NumNeg (w:=W) (RatA_rv zq) (by omega) (by omega) (by omega) y0;have sh:=ref1_shl (N:=1) (m:=8) (by rw[lim_one];simp);rw[xe,lim_one]at sh;have l:=lim_len_shl (a:=1) (n:=8);have l1:=lim_len1;rw[xe]at l;have of:=ref2_OfL (s:=false) (n:=1) (d:=2^8);rw[lim_one,show sgn false 1=1 from rfl]at of;have hY:4*upN y W<=2^W:=by
  have e:2^W=2^(W-2)*4:=by rw[show (4:Nat)=2^2 from rfl,<- xN];congr 1;omega
  have:=upN_le (w:=W) (c:=2^(W-2)) y0 y4;omega
 obtain⟨A0,B0,a1,a2,a3,hr,fr⟩:=ref6_row (w:=W) (by omega) (by omega) hY (un_up W);have E1:Ex.E (-y) 1=1:=by show (0:Rat)+1=1;decide +kernel
 obtain⟨s1,hs⟩:=nRow_enc (num_enc y0 W) yh _ 0 _ _ _ _ _ _ hr sq_one (by rw[E1];exact sq_one);have en : ∀L,s1<=L->Enc W A0 B0 (1/Ex.E y L):=fun L hL=>hs L hL
 have en8:=fun L hL=>sqn_enc (w:=W) 8 A0 B0 _ (en L hL)
 obtain⟨s2,hs2⟩:=inv_far (x := -x) (j:=2^8) (by omega) y0 (by rw[show (2:Nat)^8=256 from rfl];exact y256) en8;have st : ∀ (k lo hi c:Nat),lo<=hi->hi<=2^(W+c)->c<=128->(Go.Ev.Fn CX 190 [ivN lo hi,ivN lo hi,.int .i64 (W:Int)] (ivN (lo*lo/2^W) (cdv (hi*hi) (2^W))))/\lo*lo/2^W<=cdv (hi*hi) (2^W)/\cdv (hi*hi) (2^W)<=2^(W+(c+c)):=by
  intro k lo hi c q1 q2 q3;obtain⟨m1,m2⟩:=sqn_step q1 q2;have lh:=lim_len_p2 q2;exact⟨ref4_ProdN q1 q1,m1,m2⟩
 have fin : ∀ (k lo hi c:Nat),lo<=hi->hi<=2^(W+c)->c*2^k<=256->(sqn W k lo hi).1<=(sqn W k lo hi).2/\(sqn W k lo hi).2<=2^(W+256):=by
  intro k;induction k with
  |zero=>intro lo hi c q1 q2 q3;exact⟨q1,xG q2 (xE (by omega) (by omega))⟩
  |succ k ih=>
   intro lo hi c q1 q2 q3;obtain⟨m1,m2⟩:=sqn_step q1 q2;refine ih _ _ (c+c) m1 m2 ?_;rw[xW,<- Nat.mul_two]at *
   rw[xP,xV 2];exact q3
 obtain⟨R1,R2,hR⟩ : ∃R1 R2:Nat,sqn W 8 A0 B0=(R1,R2):=⟨_,_,rfl⟩
 obtain⟨f1,f2⟩:=fin 8 A0 B0 1 a2 a3 (by omega);rw[hR]at f1 f2 hs2;simp only at f1 f2 hs2;have lR2:=lim_len_p2 f2;have lR1:=lim_len_mono f1;have bk:=ref4_BackN (a:=R1) (b:=R2) (n:=130);have o12:=div_le_cdv (d:=2^130) (Nat.two_pow_pos 130) f1;have f2':R2<=2^(w+130+256):=hW (fun W=>R2<=2^(W+256)) f2;refine⟨R1/2^130,cdv R2 (2^130),o12,xG (cdv_self R2 (Nat.two_pow_pos 130)) f2',?_,⟨s2+1,fun L hL => ?_⟩,?_⟩;rotate_left
 ·have e:evX x L=1/Ex.E (-x) L:=by
   unfold evX;by_cases g:x<0
   ·rw[if_pos g]
   ·rw[if_neg g];have x0:x=0:=Rat.le_antisymm h0 (zf.1 g);subst x0;obtain⟨k,rfl⟩ : ∃k,L=k+1:=⟨L-1,by omega⟩
    rw[Rat.neg_zero,Ex.E_zero];decide +kernel
  rw[e];exact enc_backN (w:=w) (n:=130) (hW (fun W=>Enc W R1 R2 (1/Ex.E (-x) L)) (hs2 L (by omega)))
 ·have:=hW (fun W=>nRow W (unN (-x*(1/256)) W) (upN (-x*(1/256)) W) (W/2+3) 1 (2^W) (2^W) (2^W:Nat) (2^W:Nat)=some ((A0:Int),(B0:Int))/\sqn W 8 A0 B0=(R1,R2)) ⟨by rw[<- hy];exact hr,hR⟩;exact⟨A0,B0,this.1,by rw[this.2],by rw[this.2]⟩
 ·clear en en8 hs hs2 hr fin f2' o12;obtain⟨s0,n0,d0,rfl,-⟩:=hv;generalize hyn1 : -((upN y W:Nat):Int)=yn1 at *
  generalize hyn2 : -((unN y W:Nat):Int)=yn2 at *
  generalize R1/2^130=O1 at *
  generalize cdv R2 (2^130)=O2 at *
  generalize mkRat 1 (2^8)=q8 at *
  generalize 2^8=P8 at *
  generalize -y=my at *
  refine fni Tryz.f150 ?_;unfold Tryz.f150;repeat (first|simp only[go_sem,hwi]|simp (disch:=first|exact omg|fail) only[AX,hwi]|refine wki ?_|refine vpd 3 [12,11,14] ?_|refine vfa ?_)
  refine vp_loop_inv (fun s=>s.tmp 1 = .sv (.int .i64 (w:Int))/\s.tmp 4 = .ptr 4 0 0/\s.obj 4 0=some [.bool false,.sl 0 [],.bool false,.sl 0 []]/\s.tmp 5 = .sv (.int .i64 130)/\s.tmp 6 = .sv (.int .i64 8)/\s.tmp 8 = .ptr 8 0 0 /\
    ∃k lo hi c:Nat,s.tmp 9 = .sv (.int .i64 ((8-k:Nat):Int))/\k<=8/\s.obj 8 0=some [.bool false,natV (lim lo),.bool false,natV (lim hi)]/\sqn W k lo hi=(R1,R2)/\lo<=hi/\hi<=2^(W+c)/\c*2^k<=256)
   (fun s=>match s.tmp 9 with | .sv (.int _ i)=>9-i.toNat|_=>0) ⟨rfl,rfl,rfl,rfl,rfl,rfl,8,A0,B0,1,rfl,by omega,rfl,hR,a2,a3,by omega⟩ ?_
  rintro s ⟨i1,i4,o4,i5,i6,i8,k,lo,hi,c,i9,hk,o8,hsq,g1,g2,g3⟩
  cases k with
  |zero=>
   have hsq':(lo,hi)=(R1,R2):=hsq;simp only[Prod.mk.injEq]at hsq';obtain⟨rfl,rfl⟩:=hsq';repeat (first|simp only[go_sem,i1,i4,o4,i5,i6,i8,i9,o8,hwi]|simp (disch:=first|exact omg|fail) only[AX,i1,i4,o4,i5,i6,i8,i9,o8,hwi]|refine wki ?_|refine vpd 3 [12,11,14] ?_|refine vfa ?_)
  |succ k=>
   have c128:c<=128:=by
    rw[xW,<- xP]at g3;have:=yg c (show 0<2^k from xM (by omega));omega
   obtain⟨mu2,m1,m2⟩:=st k lo hi c g1 g2 c128;have hsq':sqn W k (lo*lo/2^W) (cdv (hi*hi) (2^W))=(R1,R2):=hsq;clear hsq st;generalize lo*lo/2^W=lo' at *
   generalize cdv (hi*hi) (2^W)=hi' at *
   have g3':(c+c)*2^k<=256:=by
    rw[xW,xV _ 2,<- xP,Nat.mul_two]at g3;exact g3
   repeat (first|simp only[go_sem,i1,i4,o4,i5,i6,i8,i9,o8,hwi]|simp (disch:=first|exact omg|fail) only[AX,i1,i4,o4,i5,i6,i8,i9,o8,hwi]|refine wki ?_|refine vpd 3 [12,11,14] ?_|refine vfa ?_)
   exact⟨⟨k,lo',hi',c+c,by congr 2;omega,by omega,rfl,hsq',m1,m2,g3'⟩,by omega⟩
theorem ref6_Iv {v:SV} {x:Rat} {L:Nat} (hv:RatA v x L) (hL1:1<=L) (hL:L<=300) (h0:x<=0) (h64 : -64<=x) (hw:w<=600:=by omega) :
  ∃A B:Nat,A<=B/\B<=2^(w+130+256)/\Go.Ev.Fn CX 150 [v,.int .i64 (w:Int)] (ivN A B) /\ ∃s,∀L,s<=L->Enc w A B (evX x L):=by
 obtain⟨A,B,a,b,c,d,-⟩:=ref6_IvX hv hL1 hL h0 h64 hw;exact⟨A,B,a,b,c,d⟩
end
end Go.Proofs.YtfknkoeagjonbaaGreat
namespace Go.Proofs.YtfknkoeagjonbaaGreat
open Go.Ev
theorem by_ok {N D w:Nat} (hD:0<D) (hN:N<=64*D) (hw:8<=w:=by omega):N*2^w/D*2/1<=(N*2^w/D+1)*2/1+1/\(N*2^w/D+1)*2/1+1<=N*2^w/D*2/1+41/\(N*2^w/D+1)*2/1+1<=129*2^w/\N*2^w/D<=2^w*64 /\
  ∀x:Rat,x*(D:Rat)=(N:Rat)->Enc w (N*2^w/D*2/1) ((N*2^w/D+1)*2/1+1) (x*2):=by
 have P:2^8<=2^w:=xE (by omega) hw;have Tle:N*2^w/D<=2^w*64:=by
  refine(yR hD).2 ?_;have m:=xB (2^w) hN;have e:64*D*2^w=2^w*64*D:=by rw[xV,<- xP]
  omega
 refine⟨by omega,by omega,by omega,Tle,fun x hx => ?_⟩;have f:=floor_le (a:=N*2^w) (d:=D);have g:=le_floor (a:=N*2^w) (d:=D) hD;have dR:(0:Rat)<(D:Rat):=by exact_mod_cast hD
 have k:((N*2^w:Nat):Rat)=x*p2 w*(D:Rat):=by
  have:((N*2^w:Nat):Rat)=(N:Rat)*p2 w:=by exact_mod_cast rfl
  rw[this,<- hx];grind
 rw[k]at f g;have e:=enc_times (n:=2) (d:=1) (by omega) (show Enc w (N*2^w/D) (N*2^w/D+1) x from⟨le_by dR f,le_by dR g⟩);have e2:x*((2:Nat):Rat)/((1:Nat):Rat)=x*2:=by
  rw[show ((2:Nat):Rat)=2 from rfl,show ((1:Nat):Rat)=1 from rfl];generalize x*2=z;have:=yD (a:=z) (b:=1) (by decide);rw[yr]at this;exact this
 rw[e2]at e;exact e
theorem nn_of {N D:Nat} {x:Rat} (hD:0<D) (h:x*(D:Rat)=(N:Rat)):0<=x:=by
 have dR:(0:Rat)<(D:Rat):=by exact_mod_cast hD
 refine le_by dR ?_;rw[yM,h];exact nat_nonneg N
theorem le_of64 {N D:Nat} {x:Rat} (hD:0<D) (h:x*(D:Rat)=(N:Rat)) (hN:N<=64*D):x<=64:=by
 have dR:(0:Rat)<(D:Rat):=by exact_mod_cast hD
 refine le_by dR ?_;rw[h];have:=Ex.castle hN;rw[Ex.castmul]at this;exact this
theorem one_encE (w:Nat):Enc w (2^w) (2^w+1) 1:=by
 refine⟨by rw[yK];exact xi,?_⟩;rw[yK];exact_mod_cast yq (2^w)
section
variable {N D w n:Nat}
theorem incg_row (hn:1<=n) (hn2:n<=30) (hD:0<D) (hN:N<=64*D) (lN:(lim N).length<=300) (lD:(lim D).length<=300) (hw0:80<=w:=by omega) (hw:w<=1000:=by omega) :
  ∃A B:Nat,(∀s:Bool,Go.Ev.Fn CX 165 [.int .i64 (n:Int),ratV s (lim N) (lim D),.int .i64 (w:Int)] (spanV A B))/\A<=B/\B<2^(w+10014)/\B<=((igR n).1+1)*2^w/\B<=A+((igR n).2+8) /\
   ∀x:Rat,x*(D:Rat)=(N:Rat) -> ∃s0,∀L,s0<=L->Enc w A B (1*sk (x*2) (n+2) L):=by
 have fr:=fun s=>fix_RatS (s:=s) (n:=N) (d:=D) (w:=w) hD
 have P:2^8<=2^w:=xE (by omega) (by omega);obtain⟨b1,b2,b3,b4,b5⟩:=by_ok (w:=w) hD hN;generalize N*2^w/D=T at *
 have e9:2^(w+9)=2^w*512:=xN _ _ _;have e8:2^(w+8)=2^w*256:=xN _ _ _;have e10:2^(w+10)=2^w*1024:=xN _ _ _;have lT:=lim_len_pw (n:=T) (w:=w+9);have lT1:=lim_len_pw (n:=T+1) (w:=w+9);have o2:=nat_Of 2;have o1:=fix_One;have l1:=lim_len1;have l2:(lim 2).length<=1:=lim_len_one (by decide);have ti:=fix_Times (a:=T) (b:=T+1) (n:=2) (d:=1);have un:=fix_Unit (w:=w);generalize T*2/1=Q1 at *
 generalize (T+1)*2/1+1=Q2 at *
 have lQ1:=lim_len_pw (n:=Q1) (w:=w+9);have lQ2:=lim_len_pw (n:=Q2) (w:=w+9);have i0:=tInv_0 (w:=w) (k0:=n+2) (t1:=2^w) (t2:=2^w+1) (a1:=2^w) (a2:=2^w+1);obtain⟨F,hF⟩ : ∃F:Nat,F=5200:=⟨_,rfl⟩
 obtain⟨A,B,hr,hAB,hB⟩:=tRow_end (w:=w) (Y1:=Q1) (Y2:=Q2) (M:=0) (k0:=n+2) (by omega) b1 (by omega) (by omega) (by omega) 1023 F 0 (n+2) _ _ _ _ i0 (by omega) (by omega) (by omega);obtain⟨-,w1,w2⟩:=tRow_wide (W:=129) (D:=41) b3 b1 b2 F F (n+2) _ _ _ _ 2 1 2 1 A B (xU _) (by omega) hr (by omega) (by omega) (by omega) (by omega) (by omega) (by omega);obtain⟨-,w3,w4⟩:=ig_at hn hn2;rw[hF]at w1 w2;generalize wRow 129 41 5200 (n+2) 2 1 2 1=wr at *
 have w5:=xB (2^w) w3;refine⟨A,B,fun s => ?_,hAB,hB,?_,by omega,fun x hx => ?_⟩;rotate_left
 ·rw[xY,xe];omega
 ·have en:=b5 x hx;have x0:=nn_of hD hx;have x64:=le_of64 hD hx hN;exact tRow_enc (c:=1) (k0:=n+2) (by omega) en (by decide) (fun i _ g=>tk_late (w:=w) (by omega) (by omega) (enc_nonneg en) (le_128 x64) (by omega) (by rw[yK]at g;exact g)) F 0 _ _ _ _ A B hr (by
   show Enc w _ _ (1*1);rw[yK];exact one_encE w) (by show Enc w _ _ (1*(0+1));rw[Rat.zero_add,yK];exact one_encE w)
 have lens:=fun (i k t1 t2 a1 a2:Nat) (hi:i<=F) (h:tInv w (n+2) i k t1 t2 a1 a2)=>(show (lim t1).length<=1000/\(lim t2).length<=1000/\(lim a1).length<=1000/\(lim a2).length<=1000 from by
  obtain⟨h1,h2,h3,h4,h5⟩:=h;have a:=lim_len_pw h4;have b:=lim_len_mono h2;have up:(i+2)*2^(w+10000)<=2^(w+10014):=by
   have e:2^(w+10014)=16384*2^(w+10000):=by rw[show w+10014=14+(w+10000) by omega,xN 2 14]
   rw[e];exact xB _ (by omega)
  have c:=lim_len_pw (n:=a2) (w:=w+10014);have d:=lim_len_mono h3;exact⟨by omega,by omega,by omega,by omega⟩)
 have step:=fun (i k t1 t2 a1 a2:Nat) (h:tInv w (n+2) i k t1 t2 a1 a2)=>tInv_step (Y1:=Q1) (Y2:=Q2) (by omega) b1 (by omega) h
 have frs:=fr s;obtain⟨W1,hW1⟩ : ∃W1:Nat,W1=2^w:=⟨_,rfl⟩
 rw[<- hW1]at un i0 hr;clear fr b2 b3 b4 b5 e8 e9 e10 hB hAB w1 w2 w3 w4 w5 P;refine fni Tryz.f165 ?_;unfold Tryz.f165;repeat (first|simp only[go_sem]|simp (disch:=first|exact omg|fail) only[AX]|refine wki ?_|refine vfa ?_)
 refine vp_loop_inv (fun s'=>s'.tmp 2 = .sv (.int .i64 (w:Int))/\s'.tmp 6 = .ptr 6 0 0/\s'.obj 6 0=some [.sl 0 [],.sl 0 []]/\s'.tmp 7 = .ptr 7 0 0/\s'.obj 7 0=some [natV (lim Q1),natV (lim Q2)]/\s'.tmp 8 = .ptr 8 0 0/\s'.tmp 9 = .ptr 9 0 0 /\
   ∃f i k t1 t2 a1 a2:Nat,s'.tmp 10 = .sv (.int .i64 (k:Int))/\f+i=F/\tRow w Q1 Q2 0 f k t1 t2 a1 a2=some (A,B)/\s'.obj 9 0=some [natV (lim t1),natV (lim t2)]/\s'.obj 8 0=some [natV (lim a1),natV (lim a2)]/\tInv w (n+2) i k t1 t2 a1 a2)
  (fun s'=>match s'.tmp 10 with | .sv (.int _ i)=>20000-i.toNat|_=>0) ⟨rfl,rfl,rfl,rfl,rfl,rfl,rfl,F,0,n+2,W1,W1+1,W1,W1+1,rfl,by omega,hr,rfl,rfl,i0⟩ ?_
 rintro s' ⟨i2,i6,o6,i7,o7,i8,i9,f,i,k,t1,t2,a1,a2,i10,hfi,hgo,o9,o8,hok⟩
 obtain⟨lt1,lt2,la1,la2⟩:=lens i k t1 t2 a1 a2 (by omega) hok;have hk:=hok.1;have st:=step i k t1 t2 a1 a2 hok;have sm:=fix_Small (a:=t1) (b:=t2) (k:=2);cases f with
 |zero=>simp only[tRow]at hgo;cases hgo
 |succ f=>
  rw[tRow]at hgo;by_cases hs:t2<4
  ·rw[if_pos ⟨wT _,hs⟩]at hgo;simp only[Option.some.injEq,Prod.mk.injEq]at hgo;obtain⟨rfl,rfl⟩:=hgo;rw[decide_eq_true (show t2<2^2 from hs)]at sm;have wd:=fix_Wider (a:=a1) (b:=a2) (n:=8);clear step lens st hr;repeat (first|simp only[go_sem,i2,i6,o6,i7,o7,i8,i9,i10,o8,o9,xQ]|simp (disch:=first|exact omg|fail) only[AX,i2,i6,o6,i7,o7,i8,i9,i10,o8,o9,xQ]|refine wki ?_|refine vfa ?_)
  ·rw[if_neg (fun h=>hs h.2)]at hgo;rw[decide_eq_false (show ¬t2<2^2 from hs)]at sm;obtain⟨lu1,lu2,lb1,lb2⟩:=lens (i+1) (k+2) _ _ _ _ (by omega) st;have mu:=fix_Mul (a:=t1) (b:=t2) (c:=Q1) (d:=Q2) (w:=w);have qk:=nat_Of k;have lq:(lim k).length<=2:=lim_len_lt;have z1:=lim_len_mul (a:=t1) (b:=Q1);have z2:=lim_len_mul (a:=t2) (b:=Q2);have z3:=lim_len_mono (xt (t1*Q1) (2^w));have z4:=lim_len_add (a:=t2*Q2/2^w) (b:=1) (L:=5000) (xG (lim_len_mono (xt (t2*Q2) (2^w))) (by omega));have tk:=fix_Times (a:=t1*Q1/2^w) (b:=t2*Q2/2^w+1) (n:=1) (d:=k);generalize t1*Q1/2^w*1/k=u1 at *
   generalize (t2*Q2/2^w+1)*1/k+1=u2 at *
   generalize t1*Q1/2^w=v1 at *
   generalize t2*Q2/2^w+1=v2 at *
   have ad:=fix_Add (a:=a1) (b:=a2) (c:=u1) (d:=u2);clear step lens hr;repeat (first|simp only[go_sem,i2,i6,o6,i7,o7,i8,i9,i10,o8,o9,xn]|simp (disch:=first|exact omg|fail) only[AX,i2,i6,o6,i7,o7,i8,i9,i10,o8,o9,xn]|refine wki ?_|refine vf_of (by first|exact sm|exact mu|exact o1|exact qk|exact tk|exact ad) ?_)
   exact⟨⟨f,i+1,k+2,u1,u2,a1+u1,a2+u2,rfl,by omega,hgo,rfl,rfl,st⟩,by omega⟩
end
end Go.Proofs.YtfknkoeagjonbaaGreat
namespace Go.Proofs.YtfknkoeagjonbaaGreat
open Go.Ev
theorem ervP {x:Rat} (h:0<=x):rv x=ratV false (lim x.num.natAbs) (lim x.den):=by
 show ratV (decide (x.num<0)) _ _=_;rw[neg_numX,decide_eq_false (zf.2 h)]
theorem times2 (x:Rat):x*((2:Nat):Rat)/((1:Nat):Rat)=x*2:=by
 rw[show ((2:Nat):Rat)=2 from rfl,show ((1:Nat):Rat)=1 from rfl];generalize x*2=z;have:=yD (a:=z) (b:=1) (by decide);rw[yr]at this;exact this
theorem SQ_one:(1:Rat)<=SQ/\SQ<=2:=by decide +kernel
theorem inv_ball {lo hi:Rat} {w g:Nat} (h1:1<=lo) (h2:lo<=hi) (h3:(hi-lo)*p2 w<=(g:Rat)) (hg:g+2<=2^w:=by omega) (hw:1<=w:=by omega) :
  2^(2*w)/(unN hi w+1)<=2^(2*w)/unN lo w+1/\2^(2*w)/unN lo w+1<=2*2^w/\2^(2*w)/unN lo w+1<=2^(2*w)/(unN hi w+1)+(g+4)/\2^w<=unN lo w/\unN hi w+1<=unN lo w+(g+2):=by
 have P:0<2^w:=xM (by omega);have pp:2^(2*w)=2^w*2^w:=by rw[<- xN];congr 1;omega
 have u1:=unN_le (show 0<=lo by grind) w;have u2:=unN_le (show 0<=hi by grind) w;have W:=p2_pos w;have lo1:2^w<=unN lo w:=by
  have a:p2 w<((unN lo w+1:Nat):Rat):=by
   have:=unN_lt (show 0<=lo by grind) w;have m:=xA h1 (xX W);grind
  have a2:2^w<unN lo w+1:=by exact_mod_cast a
  omega
 have d:unN hi w+1<=unN lo w+(g+2):=by
  have a:((unN hi w:Nat):Rat)<((unN lo w+1+g:Nat):Rat):=by
   have:=unN_lt (show 0<=lo by grind) w;rw[Ex.castadd (unN lo w+1) g];grind
  have a2:unN hi w<unN lo w+1+g:=by exact_mod_cast a
  omega
 have m:=unN_mono (show 0<=lo by grind) h2 w;obtain⟨i1,i2,i3⟩:=inv_gapE (M:=2^(2*w)) (lo:=unN lo w) (hi:=unN hi w+1) (W:=2^w) P pp lo1;exact⟨by omega,by omega,by omega,lo1,d⟩
section
variable {N D w n:Nat}
theorem incg_roots {v:SV} {x:Rat} (hv:RatA v x 240) (h0:0<=x) (h64:x<=64) (hw0:8<=w) (hw:w<233\/w=256\/w=328) :
  ∃R1 R2:Nat,∃lo hi:Rat,Go.Ev.Fn CX 235 [v,.int .i64 (w:Int)] (spanV R1 R2)/\R1<=R2/\R2<=21*2^w/\R2<=R1+100/\0<=lo/\lo<=hi/\lo*lo<=x/\x<=hi*hi /\ ∀s,lo<=s->s<=hi->Enc w R1 R2 (s*(1/SQ)):=by
 obtain⟨lo,hi,fs,l0,lh,l1,l2,l3,y1,y2⟩:=root_Sqrt (p:=w) hv h0;obtain⟨m1,m2,fp,h1,h2,h3,h4,z1,z2⟩:=many_pi hw0;obtain⟨lo',hi',fr,r1,r2,r3,x1,x2⟩:=many_root (by omega) h1 h2 h3 h4 z1 z2;have P:2^8<=2^w:=xE (by omega) hw0;have W:=p2_pos w;have W8:((256:Nat):Rat)<=p2 w:=Ex.castle P;rw[show ((256:Nat):Rat)=256 from rfl]at W8;obtain⟨q1,q2⟩:=SQ_one;have sq2:(3/2:Rat)<=SQ:=by decide +kernel
 have lo1:1<=lo':=by
  refine zf.1 fun g => ?_
  have:=xI W8 (show 0<=hi'-lo' by grind);have h32:(3/2:Rat)*2=3:=by decide +kernel
  grind
 have lh':lo'<=hi':=by grind
 obtain⟨i1,i2,i3,i4,i5⟩:=inv_ball (w:=w) (g:=3) lo1 lh' r3;have hlo:lo<=8:=by
  refine zf.1 fun g => ?_
  have a:=xA (xX g) l0;grind
 have hhi:hi<=9:=by
  refine zf.1 fun g => ?_
  have:=xI W8 (show 0<=hi-lo by grind);grind
 have uh:unN hi w+1<=9*2^w+1:=by
  have u:=(unN_le (show 0<=hi by grind) w).1;have m:=xA hhi (xX W);have t:((unN hi w:Nat):Rat)<=((9*2^w:Nat):Rat):=by
   rw[Ex.castmul];exact xO u m
  have:unN hi w<=9*2^w:=by exact_mod_cast t
  omega
 have ul:unN hi w+1<=unN lo w+3:=by
  have a:((unN hi w:Nat):Rat)<((unN lo w+1+1:Nat):Rat):=by
   have b:=unN_lt (show 0<=lo by grind) w;have c:=(unN_le (show 0<=hi by grind) w).1;rw[Ex.castadd (unN lo w+1) 1,show ((1:Nat):Rat)=1 from rfl];grind
  have a2:unN hi w<unN lo w+1+1:=by exact_mod_cast a
  omega
 have um:unN lo w<=unN hi w+1:=yZ (unN_mono l0 lh w);have b1:=fix_Ball (w:=w) (szR_mono y1 (show _<=400 by omega)) (szR_mono y2 (show _<=400 by omega));have b2:=fix_Ball (w:=w) (szR_mono x1 (show _<=400 by omega)) (szR_mono x2 (show _<=400 by omega));obtain⟨j1,j2,j3⟩:=mulS (w:=w) (α:=10) (β:=2) (γ:=3) (δ:=7) um i1 (show unN hi w+1<=10*2^w by omega) i2 ul i3;have e9:2^(w+9)=2^w*512:=xN _ _ _;have lh2:unN hi' w+1<=9*2^w:=by
  have hi3:hi'<=3:=by
   refine zf.1 fun g => ?_
   have:=xI W8 (show 0<=hi'-lo' by grind);grind
  have u:=(unN_le (show 0<=hi' by grind) w).1;have m:=xA hi3 (xX W);have t:((unN hi' w:Nat):Rat)<=((3*2^w:Nat):Rat):=by
   rw[Ex.castmul];exact xO u m
  have:unN hi' w<=3*2^w:=by exact_mod_cast t
  omega
 have um2:=unN_mono (show 0<=lo' by grind) lh' w;have k1:=lim_len_pw (n:=unN lo w) (w:=w+9);have k2:=lim_len_pw (n:=unN hi w+1) (w:=w+9);have k3:=lim_len_pw (n:=unN lo' w) (w:=w+9);have k4:=lim_len_pw (n:=unN hi' w+1) (w:=w+9);have k5:=lim_len_pw (n:=2^(2*w)/unN lo' w+1) (w:=w+9);have k6:=lim_len_pw (n:=2^(2*w)/(unN hi' w+1)) (w:=w+9);have iv:=fix_Inverse (a:=unN lo' w) (b:=unN hi' w+1) (w:=w);have mu:=fix_Mul (a:=unN lo w) (b:=unN hi w+1) (c:=2^(2*w)/(unN hi' w+1)) (d:=2^(2*w)/unN lo' w+1) (w:=w)
 have en : ∀s,lo<=s->s<=hi->Enc w (unN lo w*(2^(2*w)/(unN hi' w+1))/2^w) ((unN hi w+1)*(2^(2*w)/unN lo' w+1)/2^w+1) (s*(1/SQ)):=fun s g1 g2=>enc_mul (ball_enc l0 g1 g2 w) (enc_inv (show 0<unN lo' w by omega) (ball_enc (show 0<=lo' by grind) r1 r2 w)).1
 refine⟨_,_,lo,hi,?_,j1,by omega,by omega,l0,lh,l1,l2,en⟩;clear en j1 j2 j3 i1 i2 i3 i4 i5 l0 lh l1 l2 l3 h1 h2 h3 h4 r1 r2 r3 k1 k2 k3 k4 k5 k6 lo1 lh' hlo hhi uh ul um lh2 q1 q2 sq2;generalize 2^(2*w)/(unN hi' w+1)=I1 at *
 generalize 2^(2*w)/unN lo' w+1=I2 at *
 generalize unN hi w+1=u2 at *
 generalize unN lo w=u1 at *
 generalize unN hi' w+1=u4 at *
 generalize unN lo' w=u3 at *
 generalize u1*I1/2^w=Z1 at *
 generalize u2*I2/2^w+1=Z2 at *
 obtain⟨s0,n0,d0,rfl,-⟩:=hv;refine fni Tryz.f235 ?_;unfold Tryz.f235;repeat (first|simp only[go_sem]|simp (disch:=first|exact omg|fail) only[AX]|refine wki ?_|refine vpd 3 [] ?_|refine vfa ?_)
def igC (n:Nat) (s:Rat):Rat:=if n%2=1 then s*(1/SQ)*2 else 1
set_option maxHeartbeats 1000000 in
theorem incg_power {x:Rat} (hz:szR x 240) (h0:0<=x) (h64:x<=64) (hn:1<=n) (hn2:n<=30) (hw0:8<=w:=by omega) (hw:w<233\/w=256\/w=328:=by omega) :
  ∃A B:Nat,∃lo hi:Rat,Go.Ev.Fn CX 164 [.int .i64 (n:Int),rv x,.int .i64 (w:Int)] (spanV A B)/\A<=B/\B<=(igP n).1*2^w/\B<=A+(igP n).2/\0<=lo/\lo<=hi/\lo*lo<=x/\x<=hi*hi /\ ∀s,lo<=s->s<=hi->Enc w A B (igC n s*tk (x*2) (2+n%2) (n/2)):=by
 obtain⟨R1,R2,lo,hi,fr,r1,r2,r3,l0,lh,l1,l2,en⟩:=incg_roots (w:=w) (RatA_rv hz) h0 h64 hw0 hw;have zp:=xG hz.1 (show 240<=300 by omega);have zd:=xG hz.2 (show 240<=300 by omega);have er:rv x=ratV false (lim x.num.natAbs) (lim x.den):=ervP h0;have hN:x.num.natAbs<=64*x.den:=by
  have d:=Ex.denR x;have e:((x.num.natAbs:Nat):Rat)=(x.num:Rat):=by rw[<- castZn,num_abs h0]
  have dR:(0:Rat)<(x.den:Rat):=by exact_mod_cast x.den_pos
  have m:=xA h64 (xX dR);rw[d,<- e]at m;have:((x.num.natAbs:Nat):Rat)<=((64*x.den:Nat):Rat):=by rw[Ex.castmul];exact m
  exact_mod_cast this
 have hx:x*(x.den:Rat)=((x.num.natAbs:Nat):Rat):=by rw[Ex.denR x,<- castZn,num_abs h0]
 have hD:=x.den_pos;rw[er]at fr ⊢;generalize x.num.natAbs=N at *
 generalize x.den=D at *
 have fx:=fix_RatS (s:=false) (n:=N) (d:=D) (w:=w) hD;have P:2^8<=2^w:=xE (by omega) (by omega);obtain⟨b1,b2,b3,b4,b5⟩:=by_ok (w:=w) hD hN;have by5:=b5 x hx;clear b5;generalize N*2^w/D=T at *
 have e9:2^(w+9)=2^w*512:=xN _ _ _;have lT:=lim_len_pw (n:=T) (w:=w+9);have lT1:=lim_len_pw (n:=T+1) (w:=w+9);have o2:=nat_Of 2;have o1:=fix_One;have l1':=lim_len1;have l2':(lim 2).length<=1:=lim_len_one (by decide);have ti:=fix_Times (a:=T) (b:=T+1) (n:=2) (d:=1);have un:=fix_Unit (w:=w);have lR1:=lim_len_pw (n:=R1) (w:=w+9);have lR2:=lim_len_pw (n:=R2) (w:=w+9);have tr:=fix_Times (a:=R1) (b:=R2) (n:=2) (d:=1);generalize T*2/1=Q1 at *
 generalize (T+1)*2/1+1=Q2 at *
 have lQ1:=lim_len_pw (n:=Q1) (w:=w+9);have lQ2:=lim_len_pw (n:=Q2) (w:=w+9);have step : ∀ (k a b:Nat),1<=k->k<1000->a<=b->(lim b).length<=2000->(Go.Ev.Fn CX 163 [spanV a b,spanV Q1 Q2,.int .i64 (w:Int)] (spanV (a*Q1/2^w) (b*Q2/2^w+1)))/\Go.Ev.Fn CX 174 [spanV (a*Q1/2^w) (b*Q2/2^w+1),natV (lim 1),natV (lim k)] (spanV (a*Q1/2^w*1/k) ((b*Q2/2^w+1)*1/k+1))/\a*Q1/2^w*1/k<=(b*Q2/2^w+1)*1/k+1/\(lim ((b*Q2/2^w+1)*1/k+1)).length<=(lim b).length+20:=by
  intro k a b hk hk2 hab hb;have la:=lim_len_mono hab;have z1:=lim_len_mul (a:=a) (b:=Q1);have z2:=lim_len_mul (a:=b) (b:=Q2);have z3:=lim_len_mono (xt (a*Q1) (2^w));have z5:=lim_len_mono (xt (b*Q2) (2^w));have z4:=lim_len_add (a:=b*Q2/2^w) (b:=1) (L:=(lim b).length+12);have z6:=lim_len_mono (xt ((b*Q2/2^w+1)*1) k);rw[xu (b*Q2/2^w+1)]at z6;have z7:=lim_len_add (a:=(b*Q2/2^w+1)*1/k) (b:=1) (L:=(lim b).length+13) (by rw[xu];omega);have lk:(lim k).length<=1:=lim_len_one;refine⟨fix_Mul,fix_Times,?_,by omega⟩;refine yZ (xg (xB 1 ?_));exact yZ (xg (xJ hab b1))
 have an:=and_one64 (a:=n);by_cases hod:n%2=1
 ·have gP:igP n=wPow 129 41 (n/2) 3 50 400:=if_pos hod;obtain⟨c1,c2,c3⟩:=pRow_wide (W:=129) (D:=41) b3 b1 b2 (n/2) 3 (R1*2/1) (R2*2/1+1) 50 400 (by omega) (by omega) (by omega) (by omega);rw[<- gP]at c2 c3;have hk0:2+n%2=3:=by omega
  have pe : ∀s,lo<=s->s<=hi->Enc w (pRow w Q1 Q2 (n/2) 3 (R1*2/1) (R2*2/1+1)).1 (pRow w Q1 Q2 (n/2) 3 (R1*2/1) (R2*2/1+1)).2 (igC n s*tk (x*2) (2+n%2) (n/2)):=by
   intro s g1 g2;rw[hk0];have h:=pRow_enc (c:=igC n s) (k0:=3) (by omega) by5 (n/2) 0 _ _ (by
   have e:=enc_times (n:=2) (d:=1) (by omega) (en s g1 g2);rw[times2]at e;rw[show igC n s=s*(1/SQ)*2 from if_pos hod];show Enc w _ _ (_*1);rw[yr];exact e)
   rw[yf]at h;exact h
  obtain⟨A,B,hAB⟩ : ∃A B:Nat,pRow w Q1 Q2 (n/2) 3 (R1*2/1) (R2*2/1+1)=(A,B):=⟨_,_,rfl⟩
  rw[hAB]at c1 c2 c3 pe;refine⟨A,B,lo,hi,?_,c1,c2,c3,l0,lh,l1,l2,pe⟩;have lS:(lim (R2*2/1+1)).length<=100:=xG (lim_len_pw (w:=w+9)) (by omega);have hS:R1*2/1<=(R2*2/1+1):=by omega
  rw[hod]at an;clear pe c1 c2 c3 gP hk0 en by5 b2 b3 b4 e9 P l0 lh l1 l2 r1 r2 r3;generalize R1*2/1=S1 at *
  generalize R2*2/1+1=S2 at *
  refine fni Tryz.f164 ?_;unfold Tryz.f164;repeat (first|simp only[go_sem,an]|simp (disch:=first|exact omg|fail) only[AX,an]|refine wki ?_|refine vfa ?_)
  refine vp_loop_inv (fun s'=>s'.tmp 0 = .sv (.int .i64 (n:Int))/\s'.tmp 2 = .sv (.int .i64 (w:Int))/\s'.tmp 6 = .ptr 6 0 0/\s'.obj 6 0=some [.sl 0 [],.sl 0 []]/\s'.tmp 7 = .ptr 7 0 0/\s'.tmp 9 = .ptr 9 0 0/\s'.obj 9 0=some [natV (lim Q1),natV (lim Q2)] /\
    ∃f i a b:Nat,s'.tmp 10 = .sv (.int .i64 ((3+2*i:Nat):Int))/\f+i=n/2/\pRow w Q1 Q2 f (3+2*i) a b=(A,B)/\s'.obj 7 0=some [natV (lim a),natV (lim b)]/\a<=b/\(lim b).length<=100+20*i)
   (fun s'=>match s'.tmp 10 with | .sv (.int _ i)=>1000-i.toNat|_=>0) ⟨rfl,rfl,rfl,rfl,rfl,rfl,rfl,n/2,0,S1,S2,rfl,by omega,hAB,rfl,hS,by omega⟩ ?_
  rintro s' ⟨i0,i2,i6,o6,i7,i9,o9,f,i,a,b,i10,hfi,hgo,o7,hab,hlb⟩
  have la:=lim_len_mono hab;cases f with
  |zero=>
    have hgo':(a,b)=(A,B):=hgo;simp only[Prod.mk.injEq]at hgo';obtain⟨rfl,rfl⟩:=hgo';clear step hAB;repeat (first|simp only[go_sem,i0,i2,i6,o6,i7,i9,o9,i10,o7]|simp (disch:=first|exact omg|fail) only[AX,i0,i2,i6,o6,i7,i9,o9,i10,o7]|refine wki ?_)
  |succ f=>
    obtain⟨mu,tk,s1,s2⟩:=step (3+2*i) a b (by omega) (by omega) hab (by omega);have qk:=nat_Of (3+2*i);have hgo':pRow w Q1 Q2 f (3+2*i+2) (a*Q1/2^w*1/(3+2*i)) ((b*Q2/2^w+1)*1/(3+2*i)+1)=(A,B):=hgo;clear step hAB hgo;generalize a*Q1/2^w*1/(3+2*i)=u1 at *
    generalize (b*Q2/2^w+1)*1/(3+2*i)+1=u2 at *
    generalize a*Q1/2^w=v1 at *
    generalize b*Q2/2^w+1=v2 at *
    repeat (first|simp only[go_sem,i0,i2,i6,o6,i7,i9,o9,i10,o7]|simp (disch:=first|exact omg|fail) only[AX,i0,i2,i6,o6,i7,i9,o9,i10,o7]|refine wki ?_|refine vf_of (by first|exact mu|exact o1|exact qk|exact tk) ?_)
    exact⟨⟨f,i+1,u1,u2,by first|rfl|(congr 2;omega),by omega,hgo',rfl,s1,by omega⟩,by omega⟩
 ·have gP:igP n=wPow 129 41 (n/2) 2 2 1:=if_neg hod;obtain⟨c1,c2,c3⟩:=pRow_wide (W:=129) (D:=41) b3 b1 b2 (n/2) 2 (2^w) (2^w+1) 2 1 (by omega) (by omega) (by omega) (by omega);rw[<- gP]at c2 c3;have hk0:2+n%2=2:=by omega
  have pe : ∀s,lo<=s->s<=hi->Enc w (pRow w Q1 Q2 (n/2) 2 (2^w) (2^w+1)).1 (pRow w Q1 Q2 (n/2) 2 (2^w) (2^w+1)).2 (igC n s*tk (x*2) (2+n%2) (n/2)):=by
   intro s g1 g2;rw[hk0];have h:=pRow_enc (c:=igC n s) (k0:=2) (by omega) by5 (n/2) 0 _ _ (by
   rw[show igC n s=1 from if_neg hod];show Enc w _ _ (1*1);rw[yr];exact one_encE w)
   rw[yf]at h;exact h
  obtain⟨A,B,hAB⟩ : ∃A B:Nat,pRow w Q1 Q2 (n/2) 2 (2^w) (2^w+1)=(A,B):=⟨_,_,rfl⟩
  rw[hAB]at c1 c2 c3 pe;refine⟨A,B,lo,hi,?_,c1,c2,c3,l0,lh,l1,l2,pe⟩;have lS:(lim (2^w+1)).length<=100:=xG (lim_len_pw (w:=w+9)) (by omega);have hS:2^w<=(2^w+1):=by omega
  rw[show n%2=0 by omega]at an;clear pe c1 c2 c3 gP hk0 en by5 b2 b3 b4 e9 P l0 lh l1 l2 r1 r2 r3;obtain⟨S1,hS1⟩ : ∃z:Nat,z=2^w:=⟨_,rfl⟩
  rw[<- hS1]at un hAB hS lS;refine fni Tryz.f164 ?_;unfold Tryz.f164;repeat (first|simp only[go_sem,an]|simp (disch:=first|exact omg|fail) only[AX,an]|refine wki ?_|refine vfa ?_)
  refine vp_loop_inv (fun s'=>s'.tmp 0 = .sv (.int .i64 (n:Int))/\s'.tmp 2 = .sv (.int .i64 (w:Int))/\s'.tmp 6 = .ptr 6 0 0/\s'.obj 6 0=some [.sl 0 [],.sl 0 []]/\s'.tmp 7 = .ptr 7 0 0/\s'.tmp 9 = .ptr 9 0 0/\s'.obj 9 0=some [natV (lim Q1),natV (lim Q2)] /\
    ∃f i a b:Nat,s'.tmp 10 = .sv (.int .i64 ((2+2*i:Nat):Int))/\f+i=n/2/\pRow w Q1 Q2 f (2+2*i) a b=(A,B)/\s'.obj 7 0=some [natV (lim a),natV (lim b)]/\a<=b/\(lim b).length<=100+20*i)
   (fun s'=>match s'.tmp 10 with | .sv (.int _ i)=>1000-i.toNat|_=>0) ⟨rfl,rfl,rfl,rfl,rfl,rfl,rfl,n/2,0,S1,(S1+1),rfl,by omega,hAB,rfl,hS,by omega⟩ ?_
  rintro s' ⟨i0,i2,i6,o6,i7,i9,o9,f,i,a,b,i10,hfi,hgo,o7,hab,hlb⟩
  have la:=lim_len_mono hab;cases f with
  |zero=>
    have hgo':(a,b)=(A,B):=hgo;simp only[Prod.mk.injEq]at hgo';obtain⟨rfl,rfl⟩:=hgo';clear step hAB;repeat (first|simp only[go_sem,i0,i2,i6,o6,i7,i9,o9,i10,o7]|simp (disch:=first|exact omg|fail) only[AX,i0,i2,i6,o6,i7,i9,o9,i10,o7]|refine wki ?_)
  |succ f=>
    obtain⟨mu,tk,s1,s2⟩:=step (2+2*i) a b (by omega) (by omega) hab (by omega);have qk:=nat_Of (2+2*i);have hgo':pRow w Q1 Q2 f (2+2*i+2) (a*Q1/2^w*1/(2+2*i)) ((b*Q2/2^w+1)*1/(2+2*i)+1)=(A,B):=hgo;clear step hAB hgo;generalize a*Q1/2^w*1/(2+2*i)=u1 at *
    generalize (b*Q2/2^w+1)*1/(2+2*i)+1=u2 at *
    generalize a*Q1/2^w=v1 at *
    generalize b*Q2/2^w+1=v2 at *
    repeat (first|simp only[go_sem,i0,i2,i6,o6,i7,i9,o9,i10,o7]|simp (disch:=first|exact omg|fail) only[AX,i0,i2,i6,o6,i7,i9,o9,i10,o7]|refine wki ?_|refine vf_of (by first|exact mu|exact o1|exact qk|exact tk) ?_)
    exact⟨⟨f,i+1,u1,u2,by first|rfl|(congr 2;omega),by omega,hgo',rfl,s1,by omega⟩,by omega⟩
end
end Go.Proofs.YtfknkoeagjonbaaGreat
namespace Go.Proofs.YtfknkoeagjonbaaGreat
open Go.Ev
theorem ev_le1 {z:Rat} (h:z<0) {L:Nat} (hL:1<=L):evX z L<=1/\0<=evX z L:=by
 unfold evX;rw[if_pos h];have one:=E_one (x := -z) (by grind) hL;have i:Ex.E (-z) L*(1/Ex.E (-z) L)=1:=Ex.mul_div _ 1 (by grind);have i0:0<=1/Ex.E (-z) L:=Ex.div_nn (by decide) (by grind);have:=xA one i0;rw[i,yK]at this;exact⟨this,i0⟩
def igV (n:Nat) (s x:Rat) (L:Nat):Rat:=igC n s*tk (x*2) (2+n%2) (n/2)*(1*sk (x*2) (n+2) L)*evX (-x) L
section
variable {v:SV} {x:Rat} {n P:Nat} {pI:Int}
theorem incg_in {nI:Int} (hz:szR x 240) (h0:0<=x) (h64:x<=64) (hn:1<=nI:=by omega) (hn2:nI<=256:=by omega):Go.Ev.Fn CX 161 [.int .i64 nI,rv x] (.bool false):=by
 have i0:=rat_Int 0;have i6:=rat_Int 64;have c1:=rat_Cmp (RatA_rv hz) (RatA_rv (int_szR (n:=0)));have c2:=rat_Cmp (RatA_rv hz) (RatA_rv (int_szR (n:=64)));have e1:decide (cmpR x ((0:Int):Rat)<0)=false:=by rw[cmpR_lt];exact decide_eq_false (zf.2 h0)
 have e2:decide (cmpR x ((64:Int):Rat)>0)=false:=by rw[cmpR_gt];exact decide_eq_false (zf.2 h64)
 generalize cmpR x ((0:Int):Rat)=y1 at *
 generalize cmpR x ((64:Int):Rat)=y2 at *
 clear h0 h64;refine fni Tryz.f161 ?_;unfold Tryz.f161;repeat (first|simp only[go_sem,e1,e2]|simp (disch:=first|exact omg|fail) only[AX,e1,e2]|refine wki ?_|refine vpd 1 [] ?_|refine vfa ?_)
theorem incg_Pzero {nI:Int} (hv:RatA v 0 240) (hn:1<=nI:=by omega) (hn2:nI<=256:=by omega):Go.Ev.Fn CX 106 [.int .i64 nI,v,.int .i64 pI] (.tup [ballR 0 0,.bool true]):=by
 have nm:=rat_Norm hv;have zz:=szR_of hv;have io:=incg_in (nI:=nI) zz (by decide) (by decide) hn hn2;have zr:=rat_Zero (RatA_rv zz);rw[decide_eq_true rfl]at zr;have i0:=rat_Int 0;have o:=ball_Of (RatA_rv (int_szR (n:=0)));rw[show ((0:Int):Rat)=0 from rfl]at i0 o;clear hn hn2 zz;obtain⟨s,N,D,rfl,-⟩:=hv;refine fni Tryz.f106 ?_;unfold Tryz.f106;repeat (first|simp only[go_sem,xn]|simp (disch:=first|exact omg|fail) only[AX,xn]|refine wki ?_|refine vpd 3 [] ?_|refine vpd 7 [] ?_|refine vpd 8 [] ?_|refine vfa ?_)
set_option maxHeartbeats 1000000 in
theorem incg_P (hv:RatA v x 240) (h0:0<x) (h64:x<=64) (hn:1<=n) (hn2:n<=30) (hpI:(pI<=0/\P=0)\/pI=(P:Int)) (hP:P<=96\/P=128\/P=200) :
  ∃l h lo hi:Rat,Go.Ev.Fn CX 106 [.int .i64 (n:Int),v,.int .i64 pI] (.tup [ballR l h,.bool true])/\l<=h/\szR l 400/\szR h 400/\(h-l)*p2 P<=1/\0<=lo/\lo<=hi/\lo*lo<=x/\x<=hi*hi /\
   ∀s,lo<=s->s<=hi -> ∃L0,∀L,L0<=L->l<=igV n s x L/\igV n s x L<=h:=by
 obtain⟨w,hwP,hw1,hw2⟩ : ∃w:Nat,w=P+128/\128<=w/\(w<225\/w=256\/w=328):=⟨_,rfl,by omega,by omega⟩
 have zx:=szR_of hv;have zn:=szR_neg zx;have nm:=rat_Norm hv;have io:=incg_in (nI:=(n:Int)) zx (xX h0) h64;have zr:=rat_Zero (RatA_rv zx);rw[decide_eq_false (show ¬x=0 by grind)]at zr;have ng:=rat_Neg (RatA_rv zx);have nx : -x<0:=by grind
 obtain⟨m,lm,fe,s2,hs2⟩:=exps_Exp (P:=w) (pI:=(w:Int)) (RatA_rv zn) (by omega) (by omega) (show -x≠0 by grind) (by grind) (by grind) (den_le zn) (by omega) (.inr rfl);obtain⟨A,B,lo,hi,fp,p1,p2',p3,l0,lh,l1,l2,pe⟩:=incg_power (w:=w) zx (xX h0) h64 hn hn2;have er:rv x=ratV false (lim x.num.natAbs) (lim x.den):=ervP (xX h0);have hN:x.num.natAbs<=64*x.den:=by
  have d:=Ex.denR x;have e:((x.num.natAbs:Nat):Rat)=(x.num:Rat):=by rw[<- castZn,num_abs (xX h0)]
  have dR:(0:Rat)<(x.den:Rat):=by exact_mod_cast x.den_pos
  have m:=xA h64 (xX dR);rw[d,<- e]at m;have:((x.num.natAbs:Nat):Rat)<=((64*x.den:Nat):Rat):=by rw[Ex.castmul];exact m
  exact_mod_cast this
 have hx:x*(x.den:Rat)=((x.num.natAbs:Nat):Rat):=by rw[Ex.denR x,<- castZn,num_abs (xX h0)]
 obtain⟨R1,R2,fr,r1,rB,r2,r3,re⟩:=incg_row (N:=x.num.natAbs) (D:=x.den) (w:=w) (n:=n) hn hn2 x.den_pos hN (xG zx.1 (by omega)) (xG zx.2 (by omega));have fr':=fr false;rw[<- er]at fr';obtain⟨s1,hs1⟩:=re x hx;have Pw:=p2_pos w;have hm:m<=2^w:=by
  have e:=(hs2 (s2+1) (by omega)).1;have k:=xO e (xA (ev_le1 (z := -x) nx (show 1<=s2+1 by omega)).1 (xX Pw));rw[yK]at k;exact_mod_cast k
 have P8:2^8<=2^w:=xE (by omega) (by omega);have e2:2^(w+2)=2^w*4:=xN _ _ _;have lp:=lim_len_pw (n:=2^w) (w:=w+2);have lm2:=lim_len_pw (n:=m+1) (w:=w+2);have lm1:=lim_len_mono (show m<=m+1 by omega);have lm3:=lim_len_pw (n:=m+1+1) (w:=w+2);have fb:=fix_Ball (w:=w) (lo:=mkRat (m:Int) (2^w)) (hi:=mkRat ((m+1:Nat):Int) (2^w)) (L:=200) (szR_nat) (szR_nat);rw[unN_mk,unN_mk]at fb;obtain⟨g1,g2,g3⟩:=ig_at hn hn2;obtain⟨u1,u2,u3⟩:=mulS (w:=w) p1 r1 p2' r2 p3 r3;obtain⟨y1,y2,y3⟩:=mulS (w:=w) (β:=2) (δ:=2) u1 (show m<=m+1+1 by omega) u2 (show m+1+1<=2*2^w by omega) u3 (show m+1+1<=m+2 by omega)
 have ve : ∀s,lo<=s->s<=hi -> ∃L0,∀L,L0<=L->Enc w (A*R1/2^w*m/2^w) ((B*R2/2^w+1)*(m+1+1)/2^w+1) (igV n s x L):=by
  intro s q1 q2;refine⟨s1+s2,fun L hL => ?_⟩;exact enc_mul (enc_mul (pe s q1 q2) (hs1 L (by omega))) (enc_wider (n:=1) (hs2 L (by omega)))
 clear pe hs1 hs2 re fr g2 g3 hx hN;have K:(igP n).1*((igR n).1+1)+1<=2^119:=by omega
 have tw : ∀k z Z,z<=2^k->Z<=z*2^w->Z<=2^(w+k):=by
  intro k z Z hz hZ;rw[wK w,xN];exact xG hZ (xB _ hz)
 have lA:(igP n).1<=2^119:=by
  have:=yg (igP n).1 (show 0<(igR n).1+1 by omega);omega
 have bB:=tw 119 _ _ lA p2';have uB:=tw 119 _ _ K u2;have sB:=tw 121 _ _ (by omega) y2;have up : ∀k,k<=121->2^(w+k)<2^(w+122):=fun k hk=>wa (by omega) (by omega)
 have gap:(B*R2/2^w+1)*(m+1+1)/2^w+1<=A*R1/2^w*m/2^w+2^(w-(P+2)):=by
  have:2^120<=2^(w-(P+2)):=xE (by omega) (by omega);omega
 have lB:=lim_len_pw (yX bB (up 119 (by omega)));have lA':=lim_len_mono p1;have lR:=lim_len_pw rB;have lR1:=lim_len_mono r1;have lU:=lim_len_pw (yX uB (up 119 (by omega)));have lU1:=lim_len_mono u1;have m1:=fix_Mul (a:=A) (b:=B) (c:=R1) (d:=R2) (w:=w);have m2:=fix_Mul (a:=A*R1/2^w) (b:=B*R2/2^w+1) (c:=m) (d:=m+1+1) (w:=w);have sS:(B*R2/2^w+1)*(m+1+1)/2^w+1<2^(w+10040):=xr (yX sB (up 121 (by omega))) (xE (by omega) (by omega));obtain⟨l,h,t1,-,t3,t4,t5,t6,ft⟩:=told_span (p:=P+2) y1 sS;have thin:=told_thin (p:=P) (by omega) gap;rw[<- t5,<- t6]at thin
 refine⟨l,h,lo,hi,?_,t1,t3,t4,thin,l0,lh,l1,l2,fun s q1 q2 => ?_⟩;rotate_left
 ·obtain⟨L0,hL⟩:=ve s q1 q2;refine⟨L0,fun L h => ?_⟩;have:=told_in (q:=P+2) (by omega) (hL L h);rw[<- t5,<- t6]at this;exact this
 have x1:(if (0:Int)>pI then (0:Int) else pI)=(P:Int):=by split<;>omega
 have x2:(if (200:Int)<(P:Int) then (200:Int) else (P:Int))=(P:Int):=if_neg (by omega);clear ve thin t1 t3 t4 t5 t6 sS gap lB lA' lR lR1 lU lU1 up sB uB bB lA tw K y1 y2 y3 u1 u2 u3 g1 l0 lh l1 l2 p1 p2' p3 r1 r2 r3 rB lp lm lm1 lm2 lm3 P8 e2 hm h0 h64 zn hpI nx;rw[er]at nm io zr ng fp fr';rw[show ((w:Nat):Int)=(P:Int)+128 by omega]at fp fr' fe fb m1 m2 ft;rw[show ((P+2:Nat):Int)=(P:Int)+2 from rfl]at ft;generalize mkRat (m:Int) (2^w)=q1 at *
 generalize mkRat ((m+1:Nat):Int) (2^w)=q2 at *
 generalize A*R1/2^w*m/2^w=S1 at *
 generalize (B*R2/2^w+1)*(m+1+1)/2^w+1=S2 at *
 generalize A*R1/2^w=U1 at *
 generalize B*R2/2^w+1=U2 at *
 generalize m+1+1=m2' at *
 generalize -x=nx at *
 obtain⟨s0,n0,d0,rfl,-⟩:=hv;refine fni Tryz.f106 ?_;unfold Tryz.f106;repeat (first|simp only[go_sem,x1,x2,xn]|simp (disch:=first|exact omg|fail) only[AX,x1,x2,xn]|refine wki ?_|refine vpd 3 [] ?_|refine vpd 7 [] ?_|refine vpd 8 [] ?_|refine vfa ?_)
theorem incg_Q {nI:Int} {l h:Rat} (hv:RatA v x 240) (zl:szR l 400) (zh:szR h 400) (f:Go.Ev.Fn CX 106 [.int .i64 nI,v,.int .i64 pI] (.tup [ballR l h,.bool true])):Go.Ev.Fn CX 51 [.int .i64 nI,v,.int .i64 pI] (.tup [ballR (1-h) (1-l),.bool true]):=by
 have i1:=rat_Int 1;have o:=ball_Of (RatA_rv (int_szR (n:=1)));have z1:szR ((1:Int):Rat) 400:=szR_mono (int_szR (n:=1));have b:=ball_Sub (L:=400) z1 z1 zl zh;rw[show ((1:Int):Rat)=1 from rfl]at i1 o b;generalize 1-h=y1 at *
 generalize 1-l=y2 at *
 obtain⟨s0,n0,d0,rfl,-⟩:=hv;refine fni Tryz.f51 ?_;unfold Tryz.f51;repeat (first|simp only[go_sem,xQ]|simp (disch:=first|exact omg|fail) only[AX,xQ]|refine wki ?_|refine vpd 4 [] ?_|refine vfa ?_)
end
end Go.Proofs.YtfknkoeagjonbaaGreat
namespace Go.Proofs.YtfknkoeagjonbaaGreat
open Go.Ev
theorem enc_oftenN {w a b:Nat} {q:Rat} (h:Enc w a b q):Enc w (a*2) (b*2) (q*2):=by
 obtain⟨h1,h2⟩:=h;unfold Enc;rw[Ex.castmul,Ex.castmul,show ((2:Nat):Rat)=2 from rfl];constructor<;>grind
theorem two_szR:szR 2 1:=⟨lim_len_lt (by decide +kernel),lim_len_lt (by decide +kernel)⟩
theorem rt_encB {lo hi W:Nat} (h1:(lo:Rat)<=SQ*SQ*p2 W) (h2:SQ*SQ*p2 W<=(hi:Rat)):Enc W (rtN (lo*2^W)) (rtN (hi*2^W)+1) SQ:=by
 have P:=p2_pos W;have e:(SQ*p2 W)*(SQ*p2 W)=SQ*SQ*p2 W*p2 W:=by grind
 have s0:0<=SQ*p2 W:=xL (by have:=SQ_one;grind) (by grind);have g1:=Ex.castle (rtN_le (lo*2^W));have g2:=Ex.castle (wR (lt_rtN (hi*2^W)));rw[Ex.castmul,Ex.castmul]at g1 g2;refine⟨sq_mono (nat_nonneg _) s0 ?_,sq_mono s0 (nat_nonneg _) ?_⟩
 ·rw[e];exact xO g1 (xA h1 (by grind))
 ·rw[e];exact xO (xA h2 (by grind)) g2
section
variable {v:SV} {x:Rat} {w n:Nat}
set_option maxHeartbeats 1000000 in
theorem ref11_row (hv:RatA v x 240) (h0:0<=x) (h64:x<=64) (hn:1<=n) (hn2:n<=30) (hw0:64<=w:=by omega) (hw:w<=900:=by omega) :
  ∃A B:Nat,Go.Ev.Fn CX 222 [.int .i64 (n:Int),v,.int .i64 (w:Int)] (ivN A B)/\A<=B/\(lim B).length<=100 /\ ∃s0,∀L,s0<=L->Enc w A B (sk (x*2) (n+2) L):=by
 have zx:=szR_of hv;have z2:=szR_mul zx two_szR;have y0:0<=x*2:=by grind
 have i2:=ref2_Int 2;have mu:=ref2_Mul hv (RatA_rv (int_szR (n:=2)));rw[show ((2:Int):Rat)=2 from rfl]at i2 mu;have nb:=ref4_NumN (w:=w) (RatA_rv z2) (by omega) (by omega) (by omega) y0;have n1:=ref4_NumN (w:=w) (RatA_rv (one_szR')) (by omega) (by omega) (by omega) (show (0:Rat)<=1 by decide);have u1:unN 1 w=2^w:=by show 1*2^w/1=_;rw[xe,wI]
 have u2:upN 1 w=2^w:=by show cdv (1*2^w) 1=_;unfold cdv;rw[xe,wI];omega
 rw[u1,u2]at n1;have i1:=ref2_Int 1;rw[show ((1:Int):Rat)=1 from rfl]at i1;have en:=num_enc y0 w;have y12:=un_up (q:=x*2) w;have yT:upN (x*2) w<=2^w*128:=upN_le (n:=128) (m:=1) y0 (by
  rw[show ((128:Nat):Rat)=128 from rfl,show ((1:Nat):Rat)=1 from rfl];grind)
 have P8:2^8<=2^w:=xE (by omega) (by omega);have ok:=dInv_0 w (n+2);obtain⟨F,hF⟩ : ∃F:Nat,F=2100:=⟨_,rfl⟩
 obtain⟨A,B,hr,hAB,hB⟩:=dRow_end (y:=x*2) (k0:=n+2) yT y12 (by omega) (by grind) (by omega) (by omega) 127 F 0 (n+2) _ _ _ _ ok (by omega) (by omega) (by omega);have e7:2^(w+8)=2^w*256:=xN _ _ _;have lB:=lim_len_pw (n:=B) (w:=w+909) (yX hB (wa (by omega) (by omega)));have ly2:=lim_len_pw (n:=upN (x*2) w) (w:=w+8);refine⟨A,B,?_,hAB,by omega,dRow_enc (by omega) en F 0 _ _ _ _ A B hr sq_one (by show Enc w _ _ (0+1);rw[Rat.zero_add];exact sq_one)⟩
 have lens:=fun (i k t1 t2 s1 s2:Nat) (hi:i<=F) (h:dInv w (n+2) i k t1 t2 s1 s2)=>(show (lim t1).length<=100/\(lim t2).length<=100/\(lim s1).length<=100/\(lim s2).length<=100/\8<=s1 from by
  obtain⟨q1,q2,q3,q4,q5,q6⟩:=h;have up:2^(w+7*min i 128)<2^(w+897):=wa (by omega) (by omega);have a:=lim_len_pw (n:=t2) (w:=w+897);have b:=lim_len_mono q2;have s:(i+1)*2^(w+896)<2^(w+909):=by
   rw[show w+909=13+(w+896) by omega,xN 2 13];exact zF (by omega) (xM (by omega))
  have c:=lim_len_pw (n:=s2) (w:=w+909);have d:=lim_len_mono q5;exact⟨by omega,by omega,by omega,by omega,by omega⟩)
 have step:=fun (i k t1 t2 s1 s2:Nat) (h:dInv w (n+2) i k t1 t2 s1 s2)=>dInv_step yT y12 (show 1<=n+2 by omega) h
 have w2:=ref4_Whole 2;rw[show (2:Int)=((2:Nat):Int) from rfl,intN_eq]at w2;have l2:(lim 2).length<=1:=lim_len_one (by decide);have j4:=ref2_Int 4;have m4:=ref2_Mul hv (RatA_rv (int_szR (n:=4)));have zm:=szR_mul zx (int_szR (n:=4));have e4:x*((4:Int):Rat)=x*2+x*2:=by rw[show ((4:Int):Rat)=4 from rfl];exact dbl_four x
 rw[e4]at m4 zm;obtain⟨W1,hW1⟩ : ∃W1:Nat,W1=2^w:=⟨_,rfl⟩
 rw[<- hW1]at n1 ok hr;have rnd : ∀ (k t1 t2:Nat),0<k->k<10000->t1<=t2->(lim t2).length<=100->Go.Ev.Fn CX 190 [ivN t1 t2,ivN (unN (x*2) w) (upN (x*2) w),.int .i64 (w:Int)] (ivN (t1*unN (x*2) w/2^w) (cdv (t2*upN (x*2) w) (2^w))) /\
   Go.Ev.Fn CX 259 [ivN (t1*unN (x*2) w/2^w) (cdv (t2*upN (x*2) w) (2^w)),.int .i64 (k:Int)] (ivN (t1*unN (x*2) w/2^w/k) (cdv (cdv (t2*upN (x*2) w) (2^w)) k)):=by
  intro k t1 t2 hk hk2 ht lt;have P:0<2^w:=xM (by omega);have z:=lim_len_mul (a:=t2) (b:=upN (x*2) w);have z2:=lim_len_mono (cdv_self (t2*upN (x*2) w) P);have v12:t1*unN (x*2) w/2^w<=cdv (t2*upN (x*2) w) (2^w):=div_le_cdv P (xJ ht y12);have z3:=lim_len_mono v12;exact⟨ref4_ProdN ht y12,ref4_ByN (by omega) (by omega) hk⟩
 clear u1 u2 en hAB hB lB e7 P8 yT;generalize unN (x*2) w=y1 at *
 generalize upN (x*2) w=y2 at *
 generalize hy:x*2=y at *
 obtain⟨s0,n0,d0,rfl,-⟩:=hv;refine fni Tryz.f222 ?_;unfold Tryz.f222;repeat (first|simp only[go_sem]|simp (disch:=first|exact omg|fail) only[AX]|refine wki ?_|refine vpd 1 [] ?_|refine vpd 3 [] ?_|refine vpd 8 [] ?_|refine vfa ?_)
 refine vp_loop_inv (fun s=>s.tmp 0 = .sv (.int .i64 (n:Int))/\s.tmp 2 = .sv (.int .i64 (w:Int))/\s.tmp 4 = .ptr 4 0 0/\s.obj 4 0=some [.bool s0,natV n0,natV d0]/\s.tmp 6 = .ptr 6 0 0/\s.obj 6 0=some [.bool false,.sl 0 [],.bool false,.sl 0 []] /\
   s.tmp 7 = .ptr 7 0 0/\s.obj 7 0=some [.bool false,natV (lim y1),.bool false,natV (lim y2)]/\s.tmp 9 = .ptr 9 0 0/\s.tmp 10 = .ptr 10 0 0 /\
   ∃f i t1 t2 s1 s2:Nat,s.tmp 11 = .sv (.int .i64 ((i+1:Nat):Int))/\f+i=F/\dRow w y1 y2 y f (n+2+2*i) t1 t2 s1 s2=some (A,B)/\s.obj 9 0=some [.bool false,natV (lim s1),.bool false,natV (lim s2)]/\s.obj 10 0=some [.bool false,natV (lim t1),.bool false,natV (lim t2)]/\dInv w (n+2) i (n+2+2*i) t1 t2 s1 s2)
  (fun s=>match s.tmp 11 with | .sv (.int _ i)=>F+2-i.toNat|_=>0) ⟨rfl,rfl,rfl,rfl,rfl,rfl,rfl,rfl,rfl,rfl,F,0,_,_,_,_,rfl,by omega,hr,rfl,rfl,ok⟩ ?_
 rintro s ⟨i0,i2',i4,o4,i6,o6,i7,o7,i9,i10,f,i,t1,t2,s1,s2,i11,hfi,hgo,o9,o10,hok⟩
 obtain⟨lt1,lt2,la1,la2,-⟩:=lens i _ t1 t2 s1 s2 (by omega) hok;have st:=step i _ t1 t2 s1 s2 hok;cases f with
 |zero=>simp only[dRow]at hgo;cases hgo
 |succ f=>
  obtain⟨lu1,lu2,lb1,lb2,ge8⟩:=lens (i+1) (n+2+2*i+2) _ _ _ _ (by omega) st;obtain⟨pr,by1⟩:=rnd (n+2+2*i) t1 t2 (by omega) (by omega) hok.2.1 lt2;have u12:=st.2.1;rw[dRow]at hgo;generalize t1*y1/2^w/(n+2+2*i)=u1 at *
  generalize cdv (cdv (t2*y2) (2^w)) (n+2+2*i)=u2 at *
  generalize t1*y1/2^w=v1 at *
  generalize cdv (t2*y2) (2^w)=v2' at *
  have sm:=ref4_SumNN (a:=s1) (b:=s2) (c:=u1) (d:=u2);have mo:=ref4_MostN (a:=u1) (b:=u2) u12;have cc:=ref4_CmpN (a:=u2) (b:=2);have ec:decide (cmpZ ((u2:Nat):Int) ((2:Nat):Int)<=0)=decide (u2<=2):=by rw[cmpZ_le];exact decide_eq_decide.2 (by omega)
  generalize cmpZ ((u2:Nat):Int) ((2:Nat):Int)=z at *
  have j2:=ref2_Int ((n+2+2*i+2:Nat):Int);have cm:=ref2_Cmp (RatA_rv zm) (RatA_rv (int_szR (n:=((n+2+2*i+2:Nat):Int))));have ex:decide (cmpR (y+y) (((n+2+2*i+2:Nat):Int):Rat)<=0)=decide (y+y<=((n+2+2*i+2:Nat):Rat)):=cmpR_le;generalize cmpR (y+y) (((n+2+2*i+2:Nat):Int):Rat)=zc at *
  have wd:=ref4_WideN (a:=s1+u1) (b:=s2+u2) (n:=8) (by omega) (by omega) ge8;generalize hNI:((n+2+2*i+2:Nat):Int)=NI at *
  generalize hNR:((n+2+2*i+2:Nat):Rat)=NR at *
  generalize (NI:Rat)=NIR at *
  rw[<- hNI,show ((n+2+2*i+2:Nat):Int)=(n:Int)+2*((i:Int)+1)+2 by omega]at j2;rw[show ((n+2+2*i:Nat):Int)=(n:Int)+2*((i:Int)+1) by omega]at by1;rw[show ((i+1:Nat):Int)=(i:Int)+1 by omega]at i11;generalize y+y=yy at *
  clear lens step rnd hr hy;by_cases hu:u2<=2
  ·rw[decide_eq_true hu]at ec;by_cases hx:yy<=NR
   ·rw[decide_eq_true hx]at ex;rw[if_pos ⟨hu,hx⟩]at hgo;simp only[Option.some.injEq,Prod.mk.injEq]at hgo;rw[hgo.1,hgo.2]at wd;clear hgo st hok;repeat (first|simp only[go_sem,i0,i2',i4,o4,i6,o6,i7,o7,i9,i10,i11,o9,o10,ec,ex]|simp (disch:=first|exact omg|fail) only[AX,i0,i2',i4,o4,i6,o6,i7,o7,i9,i10,i11,o9,o10,ec,ex]|refine wki ?_|refine vpd 1 [] ?_|refine vpd 3 [] ?_|refine vpd 8 [] ?_|refine vf_of (by first|exact pr|exact by1|exact sm|exact mo|exact w2|exact cc|exact j4|exact m4|exact j2|exact cm|exact wd) ?_)
   ·rw[decide_eq_false hx]at ex;rw[if_neg (fun h=>hx h.2)]at hgo;repeat (first|simp only[go_sem,i0,i2',i4,o4,i6,o6,i7,o7,i9,i10,i11,o9,o10,ec,ex]|simp (disch:=first|exact omg|fail) only[AX,i0,i2',i4,o4,i6,o6,i7,o7,i9,i10,i11,o9,o10,ec,ex]|refine wki ?_|refine vpd 1 [] ?_|refine vpd 3 [] ?_|refine vpd 8 [] ?_|refine vf_of (by first|exact pr|exact by1|exact sm|exact mo|exact w2|exact cc|exact j4|exact m4|exact j2|exact cm) ?_)
    exact⟨⟨f,i+1,u1,u2,s1+u1,s2+u2,by first|rfl|(congr 2;omega),by omega,by rw[show n+2+2*(i+1)=n+2+2*i+2 by omega];exact hgo,rfl,rfl,by rw[show n+2+2*(i+1)=n+2+2*i+2 by omega];exact st⟩,by omega⟩
  ·rw[decide_eq_false hu]at ec;rw[if_neg (fun h=>hu h.1)]at hgo;repeat (first|simp only[go_sem,i0,i2',i4,o4,i6,o6,i7,o7,i9,i10,i11,o9,o10,ec]|simp (disch:=first|exact omg|fail) only[AX,i0,i2',i4,o4,i6,o6,i7,o7,i9,i10,i11,o9,o10,ec]|refine wki ?_|refine vpd 1 [] ?_|refine vpd 3 [] ?_|refine vpd 8 [] ?_|refine vf_of (by first|exact pr|exact by1|exact sm|exact mo|exact w2|exact cc) ?_)
   exact⟨⟨f,i+1,u1,u2,s1+u1,s2+u2,by first|rfl|(congr 2;omega),by omega,by rw[show n+2+2*(i+1)=n+2+2*i+2 by omega];exact hgo,rfl,rfl,by rw[show n+2+2*(i+1)=n+2+2*i+2 by omega];exact st⟩,by omega⟩
end
end Go.Proofs.YtfknkoeagjonbaaGreat
